/- impl.CancelWait: what it returns. -/
import Derived.Test.YtmmkbiljjhigfaaDelete
import Derived.Test.YtmmkbiljjhigfaaServe
import Derived.Test.YtmmkbiljjhigfaaSemValidS
import Derived.Test.YtmmkbiljjhigfaaSemRes
import Derived.Test.YtmmkbiljjhigfaaBase2
namespace Go.Proofs.Ytmmkbiljjhigfaa
open Go.RowKit
set_option linter.unusedSimpArgs false
set_option linter.unusedVariables false
set_option maxHeartbeats 3200000
def cancel (s : SemD) (t : Int) : SemD × List Int × Bool :=
  if semB s = true ∧ t ∈ s.q.map (·.1) then
    (⟨(serve s.free (cut s.q (findW t s.q).toNat)).1, s.limit, (serve s.free (cut s.q (findW t s.q).toNat)).2.1⟩, (serve s.free (cut s.q (findW t s.q).toNat)).2.2, true)
  else (SemD.zero, [], false)
theorem cut_mem {α : Type} {q : List α} {i : Nat} {x : α} (h : x ∈ cut q i) : x ∈ q := by
  rcases List.mem_append.1 h with h | h
  · exact List.mem_of_mem_take h
  · exact List.mem_of_mem_drop h
theorem CancelWait_calls (f l t : Int) (v : Value) (q : List (Int × Int)) (w : World) (h : PRow w v q) :
    Calls Try.prog 39 #[.agg #[.int .i64 f, .int .i64 l, v], .int .i64 t] w fun e w' => ∃ qv gv, e = .returned (.tuple #[.agg #[.int .i64 (cancel ⟨f, l, q⟩ t).1.free, .int .i64 (cancel ⟨f, l, q⟩ t).1.limit, qv], gv, .bool (cancel ⟨f, l, q⟩ t).2.2]) ∧
      Own w.heap.size 62 2 encP w' qv (cancel ⟨f, l, q⟩ t).1.q ∧ Own w.heap.size 3 1 encI w' gv (cancel ⟨f, l, q⟩ t).2.1 ∧ Below w.heap.size w w' := by
  obtain ⟨a, cp, rfl, _⟩ := id h
  have hb0 : Below w.heap.size w ((w.alloc (.cells #[.int .i64 f, .int .i64 l, .slice a q.length cp] 48)).alloc (.cells #[.int .i64 0, .int .i64 0, .slice none 0 0] 48)) := ((Below.refl _ _).alloc (Nat.le_refl _) _).alloc (by simp) _
  have HB0 := Lib.hid hb0; clear hb0
  have X0 := Lib.hid (heap_up (B := .cells #[.int .i64 0, .int .i64 0, .slice none 0 0] 48) (heap_at w (.cells #[.int .i64 f, .int .i64 l, .slice a q.length cp] 48)))
  have Y0 := Lib.hid (heap_at1 w (.cells #[.int .i64 f, .int .i64 l, .slice a q.length cp] 48) (.cells #[.int .i64 0, .int .i64 0, .slice none 0 0] 48))
  cases hv : semB ⟨f, l, q⟩
  · have hp : cancel ⟨f, l, q⟩ t = (SemD.zero, [], false) := by simp [cancel, hv]
    rw [hp]
    have HV := Lib.hid hv; clear hv hp
    go_enter Try.func39, Try.ntmps39
    go_wp2_with (first | (go_at_call 37; refine (SemValid_calls _ _ _ q _ (h.below HB0.out)).mono ?_; rintro e w1 ⟨rfl, hb⟩; rw [HV.out]; have HB1 := Lib.hid (HB0.out.trans (hb.mono HB0.out.size)); have X1 := Lib.hid (below_at hb X0.out); have Y1 := Lib.hid (below_at hb Y0.out); have Z1 := hb.size; clear hb; obtain ⟨c10, c11, c12, k10, k11, k12⟩ := box3 X1.out; obtain ⟨d10, d11, d12, g10, g11, g12⟩ := box3 Y1.out; have L1 := heap_lt Y1.out; have M1 := heap_lt X1.out))
    refine bodyPost_ret (v := .tuple #[.agg #[.int .i64 0, .int .i64 0, .slice none 0 0], .slice none 0 0, .bool false]) (by simp [results, Try.results39, go_sem, d10, d11, d12, L1, M1]) rfl ⟨_, _, rfl, Own.nil _ _ _ _ _, Own.nil _ _ _ _ _, (by repeat (first | (with_reducible exact HB1.out) | (refine Below.setCell ?_ (by first | omega | (simp only [szA, szS, szD, World.heap_drewN] at * <;> omega)) _) | (refine Below.alloc ?_ (by first | omega | (simp only [szA, szS, szD, World.heap_drewN] at * <;> omega)) _) | refine Below.drew ?_))⟩
  · have hok := semB_true.1 hv
    have HQ : Hid (q.length ≤ 6) := hok.1.2.2.2.2
    have hl1 : 1 ≤ l := hok.1.1
    have hl9 : l ≤ 9 := hok.1.2.1
    have hf0 : 0 ≤ f := hok.1.2.2.1
    have hfl : f ≤ l := hok.1.2.2.2.1
    by_cases hin : t ∈ q.map (·.1)
    · obtain ⟨k, hk, hfk⟩ := findW_some hin
      obtain ⟨c, hcc⟩ : ∃ c, c = cut q k := ⟨_, rfl⟩
      have hp : cancel ⟨f, l, q⟩ t = (⟨(serve f c).1, l, (serve f c).2.1⟩, (serve f c).2.2, true) := by simp only [cancel]; rw [if_pos ⟨hv, hin⟩, hfk, Int.toNat_natCast, hcc]
      rw [hp]
      have HN : Hid (∀ x ∈ c, 0 ≤ x.2) := fun x hx => by rw [hcc] at hx; have := (hok.2.1 x (cut_mem hx)).1; omega
      have hcl : c.length = q.length - 1 := by rw [hcc, cut_len hk]
      have HCL := Lib.hid hcl; have HCC := Lib.hid hcc; have HFK := Lib.hid hfk
      have HV := Lib.hid hv; clear hv hp hok hin hfk hcc hcl
      have e5 : decide ((k : Int) < 0) = false := decide_eq_false (by omega)
      go_enter Try.func39, Try.ntmps39
      go_wp2_with (first | (go_at_call 37; refine (SemValid_calls _ _ _ q _ (h.below HB0.out)).mono ?_; rintro e w1 ⟨rfl, hb⟩; rw [HV.out]; have HB1 := Lib.hid (HB0.out.trans (hb.mono HB0.out.size)); have X1 := Lib.hid (below_at hb X0.out); have Y1 := Lib.hid (below_at hb Y0.out); have Z1 := hb.size; clear hb; obtain ⟨c10, c11, c12, k10, k11, k12⟩ := box3 X1.out; obtain ⟨d10, d11, d12, g10, g11, g12⟩ := box3 Y1.out; have L1 := heap_lt Y1.out; have M1 := heap_lt X1.out) | (go_at_call 71; refine (find_calls _ _ _ q _ _ (h.below HB1.out)).mono ?_; rintro e w2 ⟨rfl, hb⟩; rw [HFK.out]; have HB2 := Lib.hid (HB1.out.trans (hb.mono HB1.out.size)); have X2 := Lib.hid (below_at hb X1.out); have Y2 := Lib.hid (below_at hb Y1.out); have Z2 := hb.size; clear hb; obtain ⟨c20, c21, c22, k20, k21, k22⟩ := box3 X2.out; obtain ⟨d20, d21, d22, g20, g21, g22⟩ := box3 Y2.out; have L2 := heap_lt Y2.out; have M2 := heap_lt X2.out) | (go_at_call 72; refine (clone_calls _ _ _ q _ (h.below HB2.out) (by have := HQ.out; omega)).mono ?_; rintro e w3 ⟨qv3, rfl, ho, hb⟩; have HO3 := Lib.hid ho; clear ho; obtain ⟨g3, cp3, rfl, hg3, hg4⟩ := HO3.out.addr (by omega); have HB3 := Lib.hid (HB2.out.trans (hb.mono HB2.out.size)); have X3 := Lib.hid (below_at hb X2.out); have Y3 := Lib.hid (below_at hb Y2.out); have Z3 := hb.size; clear hb; obtain ⟨c30, c31, c32, k30, k31, k32⟩ := box3 X3.out; obtain ⟨d30, d31, d32, g30, g31, g32⟩ := box3 Y3.out; have L3 := heap_lt Y3.out; have M3 := heap_lt X3.out; have X3' := Lib.hid (set_at (a := ⟨w.heap.size, 2, none⟩) (set_at (a := ⟨w.heap.size, 1, none⟩) (set_at (a := ⟨w.heap.size, 0, none⟩) X3.out rfl rfl (.int .i64 f)) rfl rfl (.int .i64 l)) rfl rfl (.slice (some ⟨g3, 0, none⟩) q.length cp3)); have Y3' := Lib.hid (set_off (a := ⟨w.heap.size, 2, none⟩) (set_off (a := ⟨w.heap.size, 1, none⟩) (set_off (a := ⟨w.heap.size, 0, none⟩) Y3.out (by first | omega | (simp only [szA, szS, szD, World.heap_drewN] at * <;> omega)) (.int .i64 f)) (by first | omega | (simp only [szA, szS, szD, World.heap_drewN] at * <;> omega)) (.int .i64 l)) (by first | omega | (simp only [szA, szS, szD, World.heap_drewN] at * <;> omega)) (.slice (some ⟨g3, 0, none⟩) q.length cp3)); have HB3' := Lib.hid (((HB3.out.setCell (p := ⟨w.heap.size, 0, none⟩) (by first | omega | (simp only [szA, szS, szD, World.heap_drewN] at * <;> omega)) (.int .i64 f)).setCell (p := ⟨w.heap.size, 1, none⟩) (by first | omega | (simp only [szA, szS, szD, World.heap_drewN] at * <;> omega)) (.int .i64 l)).setCell (p := ⟨w.heap.size, 2, none⟩) (by first | omega | (simp only [szA, szS, szD, World.heap_drewN] at * <;> omega)) (.slice (some ⟨g3, 0, none⟩) q.length cp3)); have HO3' := Lib.hid (((HO3.out.set (a := ⟨w.heap.size, 0, none⟩) (by first | omega | (simp only [szA, szS, szD, World.heap_drewN] at * <;> omega)) (.int .i64 f)).set (a := ⟨w.heap.size, 1, none⟩) (by first | omega | (simp only [szA, szS, szD, World.heap_drewN] at * <;> omega)) (.int .i64 l)).set (a := ⟨w.heap.size, 2, none⟩) (by first | omega | (simp only [szA, szS, szD, World.heap_drewN] at * <;> omega)) (.slice (some ⟨g3, 0, none⟩) q.length cp3))) | (go_at_call 78; refine (Delete_calls w2.heap.size g3 cp3 k q _ HO3'.out hk).mono ?_; rintro e w4 ⟨rfl, ho, hgr⟩; rw [← HCC.out] at ho; have HO4 := Lib.hid ho; clear ho; have Z4 := hgr.size; have X4 := Lib.hid ((hgr.block w.heap.size (heap_lt X3'.out) (fun e => by cases e; omega)).trans X3'.out); have Y4 := Lib.hid ((hgr.block (w.heap.size + 1) (heap_lt Y3'.out) (fun e => by cases e; omega)).trans Y3'.out); have HB4 := Lib.hid (HB3'.out.trans (grown_below (base := w.heap.size) hgr HB3'.out.size (fun k e => by cases e; omega))); clear hgr; obtain ⟨c40, c41, c42, k40, k41, k42⟩ := box3 X4.out; obtain ⟨d40, d41, d42, g40, g41, g42⟩ := box3 Y4.out; have L4 := heap_lt Y4.out; have M4 := heap_lt X4.out; have X4' := Lib.hid (set_at (a := ⟨w.heap.size, 2, none⟩) X4.out rfl rfl (.slice (some ⟨g3, 0, none⟩) (q.length - 1) cp3)); have HO4' := Lib.hid (HO4.out.set (a := ⟨w.heap.size, 2, none⟩) (by first | omega | (simp only [szA, szS, szD, World.heap_drewN] at * <;> omega)) (.slice (some ⟨g3, 0, none⟩) (q.length - 1) cp3))) | (go_at_call 77; refine (hand_calls _ f l (.slice (some ⟨g3, 0, none⟩) (q.length - 1) cp3) c _ X4'.out (HO4'.out.row encP_len) (HO4.out.ne X4.out (by decide)) (by have := HQ.out; have := HCL.out; omega) (by omega) HN.out).mono ?_; rintro e w5 ⟨gv, qv5, rfl, hg1, hx5, hq5, hgr⟩; have HG5 := Lib.hid hg1; have X5 := Lib.hid hx5; have HQ5 := Lib.hid hq5; have HGR5 := Lib.hid hgr; clear hg1 hx5 hq5; have hz5 := hgr.size; have Y5 := Lib.hid ((hgr.block (w.heap.size + 1) (by first | omega | (simp only [szA, szS, szD, World.heap_drewN] at * <;> omega)) (by simp)).trans (set_off Y4.out (by first | omega | (simp only [szA, szS, szD, World.heap_drewN] at * <;> omega)) _)); clear hgr; obtain ⟨ad5, cp5, rfl⟩ := HQ5.out.form; obtain ⟨c50, c51, c52, k50, k51, k52⟩ := box3 X5.out; obtain ⟨d50, d51, d52, g50, g51, g52⟩ := box3 Y5.out))
      refine bodyPost_ret (v := .tuple #[.agg #[.int .i64 (serve f c).1, .int .i64 l, .slice ad5 (serve f c).2.1.length cp5], gv, .bool true]) (by simp [results, Try.results39, go_sem, d50, d51, d52]) rfl ⟨_, gv, rfl, ?_, ?_, ?_⟩
      · exact Own.mono (base := w2.heap.size) (by refine Own.set (Own.set (Own.set (HQ5.out.mono (base' := w2.heap.size) (by first | omega | (simp only [szA, szS, szD, World.heap_drewN] at * <;> omega))) (by first | omega | (simp only [szA, szS, szD, World.heap_drewN] at * <;> omega)) _) (by first | omega | (simp only [szA, szS, szD, World.heap_drewN] at * <;> omega)) _) (by first | omega | (simp only [szA, szS, szD, World.heap_drewN] at * <;> omega)) _) (by first | omega | (simp only [szA, szS, szD, World.heap_drewN] at * <;> omega))
      · exact Own.mono (base := w2.heap.size) (by refine Own.set (Own.set (Own.set (HG5.out.mono (base' := w2.heap.size) (by first | omega | (simp only [szA, szS, szD, World.heap_drewN] at * <;> omega))) (by first | omega | (simp only [szA, szS, szD, World.heap_drewN] at * <;> omega)) _) (by first | omega | (simp only [szA, szS, szD, World.heap_drewN] at * <;> omega)) _) (by first | omega | (simp only [szA, szS, szD, World.heap_drewN] at * <;> omega)) _) (by first | omega | (simp only [szA, szS, szD, World.heap_drewN] at * <;> omega))
      · have hb5 := grown_below (base := w.heap.size) HGR5.out (by first | omega | (simp only [szA, szS, szD, World.heap_drewN] at * <;> omega)) (fun k e => by cases e; exact Nat.le_refl _)
        have HB5 := Lib.hid ((HB4.out.setCell (p := ⟨w.heap.size, 2, none⟩) (by first | omega | (simp only [szA, szS, szD, World.heap_drewN] at * <;> omega)) (.slice (some ⟨g3, 0, none⟩) (q.length - 1) cp3)).trans hb5)
        exact (by repeat (first | (with_reducible exact HB5.out) | (refine Below.setCell ?_ (by first | omega | (simp only [szA, szS, szD, World.heap_drewN] at * <;> omega)) _) | (refine Below.alloc ?_ (by first | omega | (simp only [szA, szS, szD, World.heap_drewN] at * <;> omega)) _) | refine Below.drew ?_))
    · have hp : cancel ⟨f, l, q⟩ t = (SemD.zero, [], false) := by simp only [cancel]; rw [if_neg (fun e => hin e.2)]
      rw [hp]
      have e5 : decide (findW t q < 0) = true := decide_eq_true (findW_neg.2 hin)
      have HV := Lib.hid hv; clear hv hp hok hin
      go_enter Try.func39, Try.ntmps39
      go_wp2_with (first | (go_at_call 37; refine (SemValid_calls _ _ _ q _ (h.below HB0.out)).mono ?_; rintro e w1 ⟨rfl, hb⟩; rw [HV.out]; have HB1 := Lib.hid (HB0.out.trans (hb.mono HB0.out.size)); have X1 := Lib.hid (below_at hb X0.out); have Y1 := Lib.hid (below_at hb Y0.out); have Z1 := hb.size; clear hb; obtain ⟨c10, c11, c12, k10, k11, k12⟩ := box3 X1.out; obtain ⟨d10, d11, d12, g10, g11, g12⟩ := box3 Y1.out; have L1 := heap_lt Y1.out; have M1 := heap_lt X1.out) | (go_at_call 71; refine (find_calls _ _ _ q _ _ (h.below HB1.out)).mono ?_; rintro e w2 ⟨rfl, hb⟩; have HB2 := Lib.hid (HB1.out.trans (hb.mono HB1.out.size)); have X2 := Lib.hid (below_at hb X1.out); have Y2 := Lib.hid (below_at hb Y1.out); have Z2 := hb.size; clear hb; obtain ⟨c20, c21, c22, k20, k21, k22⟩ := box3 X2.out; obtain ⟨d20, d21, d22, g20, g21, g22⟩ := box3 Y2.out; have L2 := heap_lt Y2.out; have M2 := heap_lt X2.out))
      refine bodyPost_ret (v := .tuple #[.agg #[.int .i64 0, .int .i64 0, .slice none 0 0], .slice none 0 0, .bool false]) (by simp [results, Try.results39, go_sem, d20, d21, d22, L2, M2]) rfl ⟨_, _, rfl, Own.nil _ _ _ _ _, Own.nil _ _ _ _ _, (by repeat (first | (with_reducible exact HB2.out) | (refine Below.setCell ?_ (by first | omega | (simp only [szA, szS, szD, World.heap_drewN] at * <;> omega)) _) | (refine Below.alloc ?_ (by first | omega | (simp only [szA, szS, szD, World.heap_drewN] at * <;> omega)) _) | refine Below.drew ?_))⟩
end Go.Proofs.Ytmmkbiljjhigfaa
