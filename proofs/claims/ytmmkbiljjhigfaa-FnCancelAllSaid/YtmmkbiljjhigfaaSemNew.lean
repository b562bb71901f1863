/- spec.l1Copy, NewSem of both: what they return. -/
import Derived.Test.YtmmkbiljjhigfaaSemFind
import Derived.Deep.RegionHeld3
import Derived.Deep.DrawnRows
namespace Go.Proofs.Ytmmkbiljjhigfaa
open Go.RowKit
set_option linter.unusedSimpArgs false
set_option linter.unusedVariables false
attribute [local go_sem ↓] Go.wp_at_zero Go.wp_at_succ

theorem l1Copy_calls (f l : Int) (v : Value) (q : List (Int × Int)) (w : World) (h : PRow w v q) (hq : q.length ≤ 1000000) :
    Calls Try.prog 75 #[.agg #[.int .i64 f, .int .i64 l, v]] w fun e w' => ∃ v', e = .returned (.agg #[.int .i64 f, .int .i64 l, v']) ∧
      Own w.heap.size 62 2 encP w' v' q ∧ Below w.heap.size w w' := by
  have hb0 : Below w.heap.size w ((w.alloc (.cells #[.int .i64 f, .int .i64 l, v] 48)).alloc (.cells #[.int .i64 0, .int .i64 0, .slice none 0 0] 48)) := ((Below.refl _ _).alloc (Nat.le_refl _) _).alloc (by simp) _
  have HB := Lib.hid hb0; clear hb0
  obtain ⟨a, c, rfl, _⟩ := id h
  go_enter Try.func75, Try.ntmps75
  go_wp2
  have ca := heap_up (B := .cells #[.int .i64 0, .int .i64 0, .slice none 0 0] 48) (heap_at w (.cells #[.int .i64 f, .int .i64 l, .slice a q.length c] 48))
  have cb := heap_at1 w (.cells #[.int .i64 f, .int .i64 l, .slice a q.length c] 48) (.cells #[.int .i64 0, .int .i64 0, .slice none 0 0] 48)
  generalize hW : ((w.alloc (.cells #[.int .i64 f, .int .i64 l, .slice a q.length c] 48)).alloc (.cells #[.int .i64 0, .int .i64 0, .slice none 0 0] 48)) = W at *
  have hz : W.heap.size = w.heap.size + 2 := by rw [← hW]; simp
  have HZ := Lib.hid hz
  have hz1 : w.heap.size + 1 < W.heap.size := by omega
  clear hz hW
  have CA := Lib.hid ca
  have CB := Lib.hid cb
  obtain ⟨c0, c1, c2, f0, f1, f2⟩ := box3 ca
  clear ca cb
  go_region_held3 (fun w' => w'.cell? ⟨w.heap.size, 0, none⟩ = some (.int .i64 f) ∧ w'.cell? ⟨w.heap.size, 1, none⟩ = some (.int .i64 l) ∧ w'.cell? ⟨w.heap.size, 2, none⟩ = some (.slice a q.length c)) (go_keep)
    ((refine step_clone _ encP_len one_pair (by rfl) _ _ 46 (by rfl) 62 _ 16 Try.underlying46 info_W rfl (by decide) (w.heap.size + 2) _ (by rfl) (by exact heap_at W _) (by omega) _ q (by rfl) (by exact h.below (HB.out.alloc (by omega) _).drew) (by decide) (by omega) ?_; intro ad cap w1 hown hg; have HO := Lib.hid hown; clear hown; have HG := Lib.hid (clone_below hg); clear hg; obtain ⟨k0, k1, k2, l0, l1, l2⟩ := box3 (below_at HG.out CA.out); obtain ⟨m0, m1, m2, n0, n1, n2⟩ := box3 (below_at HG.out CB.out)))
  clear k0 k1 k2
  go_wp2
  refine bodyPost_ret (v := .agg #[.int .i64 f, .int .i64 l, .slice ad q.length cap]) (by simp [results, Try.results75, go_sem, m0, m1, m2]) rfl ⟨_, rfl, ?_, ?_⟩
  · exact (((HO.out.set (by first | omega | (simp only [szA, szS, szD, World.heap_drewN] at * <;> omega)) _).set (by first | omega | (simp only [szA, szS, szD, World.heap_drewN] at * <;> omega)) _).set (by first | omega | (simp only [szA, szS, szD, World.heap_drewN] at * <;> omega)) _).mono (by first | omega | (simp only [szA, szS, szD, World.heap_drewN] at * <;> omega))
  · exact (((HB.out.trans (HG.out.mono HB.out.size)).setCell (by first | omega | (simp only [szA, szS, szD, World.heap_drewN] at * <;> omega)) _).setCell (by first | omega | (simp only [szA, szS, szD, World.heap_drewN] at * <;> omega)) _).setCell (by first | omega | (simp only [szA, szS, szD, World.heap_drewN] at * <;> omega)) _

theorem sNewSem_calls (l : Int) (w : World) :
    Calls Try.prog 92 #[.int .i64 l] w fun e w' => ∃ qv, e = .returned (.tuple #[.agg #[.int .i64 (newSem l).free, .int .i64 (newSem l).limit, qv], .bool (newSemB l)]) ∧
      Own w.heap.size 62 2 encP w' qv (newSem l).q ∧ Below w.heap.size w w' := by
  by_cases h1 : 1 ≤ l
  · by_cases h9 : l ≤ 9
    · have e1 : newSem l = ⟨l, l, []⟩ := if_pos ⟨h1, h9⟩
      have e2 : newSemB l = true := by simp [newSemB, h1, h9]
      have E1 := Lib.hid e1; have E2 := Lib.hid e2; clear e1 e2
      go_enter Try.func92, Try.ntmps92
      go_wp2
      refine bodyPost_ret (v := .tuple #[.agg #[.int .i64 l, .int .i64 l, .slice (some ⟨w.heap.size + 1, 0, none⟩) 0 0], .bool true]) (by simp [results, Try.results92, go_sem]) rfl ⟨_, by rw [E1.out, E2.out] <;> rfl, ?_, (by repeat (first | (with_reducible assumption) | (with_reducible exact Below.refl _ _) | (refine Below.setCell ?_ (by first | omega | (simp only [szA, szS, szD, World.heap_drewN] at * <;> omega)) _) | (refine Below.alloc ?_ (by first | omega | (simp only [szA, szS, szD, World.heap_drewN] at * <;> omega)) _) | refine Below.drew ?_))⟩
      rw [E1.out]
      exact Own.empty (heap_at1 w _ _) (by first | omega | (simp only [szA, szS, szD, World.heap_drewN] at * <;> omega))
    · have e1 : newSem l = SemD.zero := if_neg (fun e => h9 e.2)
      have e2 : newSemB l = false := by simp [newSemB, h9]
      have E1 := Lib.hid e1; have E2 := Lib.hid e2; clear e1 e2
      go_enter Try.func92, Try.ntmps92
      go_wp2
      refine bodyPost_ret (v := .tuple #[.agg #[.int .i64 0, .int .i64 0, .slice none 0 0], .bool false]) (by simp [results, Try.results92, go_sem]) rfl ⟨_, by rw [E1.out, E2.out] <;> rfl, ?_, (by repeat (first | (with_reducible assumption) | (with_reducible exact Below.refl _ _) | (refine Below.setCell ?_ (by first | omega | (simp only [szA, szS, szD, World.heap_drewN] at * <;> omega)) _) | (refine Below.alloc ?_ (by first | omega | (simp only [szA, szS, szD, World.heap_drewN] at * <;> omega)) _) | refine Below.drew ?_))⟩
      rw [E1.out]
      exact Own.nil _ _ _ _ _
  · have e1 : newSem l = SemD.zero := if_neg (fun e => h1 e.1)
    have e2 : newSemB l = false := by simp [newSemB, h1]
    have E1 := Lib.hid e1; have E2 := Lib.hid e2; clear e1 e2
    go_enter Try.func92, Try.ntmps92
    go_wp2
    refine bodyPost_ret (v := .tuple #[.agg #[.int .i64 0, .int .i64 0, .slice none 0 0], .bool false]) (by simp [results, Try.results92, go_sem]) rfl ⟨_, by rw [E1.out, E2.out] <;> rfl, ?_, (by repeat (first | (with_reducible assumption) | (with_reducible exact Below.refl _ _) | (refine Below.setCell ?_ (by first | omega | (simp only [szA, szS, szD, World.heap_drewN] at * <;> omega)) _) | (refine Below.alloc ?_ (by first | omega | (simp only [szA, szS, szD, World.heap_drewN] at * <;> omega)) _) | refine Below.drew ?_))⟩
    rw [E1.out]
    exact Own.nil _ _ _ _ _
end Go.Proofs.Ytmmkbiljjhigfaa
