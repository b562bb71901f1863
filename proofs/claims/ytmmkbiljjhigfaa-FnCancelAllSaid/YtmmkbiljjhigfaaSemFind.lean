/- clone, find and the empty semaphores: what they return. -/
import Derived.Test.YtmmkbiljjhigfaaSemPlain
import Derived.Test.YtmmkbiljjhigfaaInfo
namespace Go.Proofs.Ytmmkbiljjhigfaa
open Go.RowKit
set_option linter.unusedSimpArgs false
set_option linter.unusedVariables false

theorem clone_calls (f l : Int) (v : Value) (q : List (Int × Int)) (w : World) (h : PRow w v q) (hq : q.length ≤ 1000000) :
    Calls Try.prog 72 #[.agg #[.int .i64 f, .int .i64 l, v]] w fun e w' => ∃ v', e = .returned (.agg #[.int .i64 f, .int .i64 l, v']) ∧
      Own w.heap.size 62 2 encP w' v' q ∧ Below w.heap.size w w' := by
  have hb0 : Below w.heap.size w ((w.alloc (.cells #[.int .i64 f, .int .i64 l, v] 48)).alloc (.cells #[.int .i64 0, .int .i64 0, .slice none 0 0] 48)) := ((Below.refl _ _).alloc (Nat.le_refl _) _).alloc (by simp) _
  have HB := Lib.hid hb0; clear hb0
  obtain ⟨a, c, rfl, _⟩ := id h
  go_enter Try.func72, Try.ntmps72
  go_wp2_with (at_builtin; refine wpList_clone _ encP_len one_pair rfl _ _ 46 rfl 62 _ 16 Try.underlying46 info_W rfl (by decide) rfl _ q rfl (h.below HB.out) (by decide) (by omega) ?_; intro ad cap w1 hown hb; have HO := Lib.hid hown; clear hown; have HB1 := Lib.hid hb; clear hb; have hz := HB1.out.size; obtain ⟨c0, c1, c2, f0, f1, f2⟩ := box3 (below_at HB1.out (heap_up (heap_at w _))); obtain ⟨d0, d1, d2, g0, g1, g2⟩ := box3 (below_at HB1.out (heap_at1 w _ _)))
  refine bodyPost_ret (v := .agg #[.int .i64 f, .int .i64 l, .slice ad q.length cap]) (by simp [results, Try.results72, go_sem, d0, d1, d2]) rfl ⟨_, rfl, ?_, ?_⟩
  · exact ((((HO.out.set (by first | omega | (simp only [szA, szS, szD, World.heap_drewN] at * <;> omega)) _).set (by first | omega | (simp only [szA, szS, szD, World.heap_drewN] at * <;> omega)) _).set (by first | omega | (simp only [szA, szS, szD, World.heap_drewN] at * <;> omega)) _).set (by first | omega | (simp only [szA, szS, szD, World.heap_drewN] at * <;> omega)) _).mono (by first | omega | (simp only [szA, szS, szD, World.heap_drewN] at * <;> omega))
  · exact ((((HB.out.trans (HB1.out.mono HB.out.size)).setCell (by first | omega | (simp only [szA, szS, szD, World.heap_drewN] at * <;> omega)) _).setCell (by first | omega | (simp only [szA, szS, szD, World.heap_drewN] at * <;> omega)) _).setCell (by first | omega | (simp only [szA, szS, szD, World.heap_drewN] at * <;> omega)) _).setCell (by first | omega | (simp only [szA, szS, szD, World.heap_drewN] at * <;> omega)) _

theorem findIn_calls (t : Int) (x y : Int) (a : Addr) (w : World) (ha : w.cell? a = some (.int .i64 t)) :
    Calls Try.prog 89 #[.agg #[.int .i64 x, .int .i64 y], .pointer (some a)] w fun e w' => e = .returned (.bool (x == t)) ∧ Below w.heap.size w w' := by
  have hlt := World.block_lt_of_cell? w _ ha
  have hb : Below w.heap.size w (w.alloc (.cells #[.int .i64 x, .int .i64 y] 62)) := (Below.refl _ _).alloc (Nat.le_refl _) _
  have ha2 := (hb.cell hlt).trans ha
  have HB := Lib.hid hb; clear hb
  go_enter Try.func89, Try.ntmps89
  go_wp2
  go_ret
  exact ⟨rfl, HB.out⟩

theorem l1Find_calls (v : Value) (q : List (Int × Int)) (t : Int) (w : World) (h : PRow w v q) :
    Calls Try.prog 74 #[v, .int .i64 t] w fun e w' => e = .returned (.int .i64 (findW t q)) ∧ Below w.heap.size w w' := by
  obtain ⟨a, c, rfl, l, m, r⟩ := h.look
  have R := Lib.hid r; clear r
  have hm : q.length ≤ 9223372036854775807 := by omega
  go_enter Try.func74, Try.ntmps74
  go_wp2
  go_loop [5] (fun i => ∃ k : Nat, k ≤ q.length ∧ i = .int .i64 k ∧ (∀ x ∈ q.take k, x.1 ≠ t)) (fun i => q.length - (intOf i).toNat)
  case atStart => exact ⟨0, Nat.zero_le _, rfl, by simp⟩
  case round =>
    obtain ⟨k, hk, rfl, hj⟩ := hrel
    have HJ := Lib.hid hj; clear hj
    by_cases hlt : k < q.length
    · obtain ⟨b, o, rfl, hb1, hc1⟩ := R.out (by omega)
      obtain ⟨x, hx⟩ := get_ex hlt
      have hk1 := (hc1 k x hx).1
      have HX := Lib.hid hx; clear hx hc1
      go_wp2
      · go_ret
        exact ⟨ret_int (findW_at HX.out HJ.out (by simpa using ‹(x.1 == t) = true›)).symm, Below.refl _ _⟩
      · go_round
        case rel => exact ⟨k + 1, by omega, by go_num, all_snoc HX.out HJ.out (by simpa using ‹(x.1 == t) = false›)⟩
        case measure => simp [intOf]; omega
    · go_wp2
      go_ret
      have h := HJ.out
      rw [take_all (by omega)] at h
      exact ⟨ret_int (findW_no h).symm, Below.refl _ _⟩

theorem IndexFunc_calls (v : Value) (q : List (Int × Int)) (t : Int) (ad : Addr) (w : World) (h : PRow w v q) (ha : w.cell? ad = some (.int .i64 t)) :
    Calls Try.prog 88 #[v, .func (.func 89) #[] #[.pointer (some ad)]] w fun e w' => e = .returned (.int .i64 (findW t q)) ∧ Below w.heap.size w w' := by
  obtain ⟨a, c, rfl, l, m, r⟩ := h.look
  have R := Lib.hid r; clear r
  have hm : q.length ≤ 9223372036854775807 := by omega
  have HA := Lib.hid ha; clear ha
  go_enter Try.func88, Try.ntmps88
  go_wp2
  go_loopw [8] (fun i wr => ∃ k : Nat, k ≤ q.length ∧ i = .int .i64 k ∧ (∀ x ∈ q.take k, x.1 ≠ t) ∧ Below w.heap.size w wr) (fun i _ => q.length - (intOf i).toNat)
  case atStart => exact ⟨0, Nat.zero_le _, rfl, by simp, Below.refl _ _⟩
  case round =>
    obtain ⟨k, hk, rfl, hj, hb⟩ := hrel
    have HJ := Lib.hid hj; clear hj
    have HB := Lib.hid hb; clear hb
    by_cases hlt : k < q.length
    · obtain ⟨b, o, rfl, hb1, hc1⟩ := R.out (by omega)
      obtain ⟨x, hx⟩ := get_ex hlt
      have hk1 := (HB.out.cell (p := ⟨b, o + k * 2, none⟩) hb1).trans (hc1 k x hx).1
      have hk2 := (HB.out.cell (p := ⟨b, o + k * 2 + 1, none⟩) hb1).trans (hc1 k x hx).2
      have HX := Lib.hid hx; clear hx hc1
      go_wp2_with (go_at_call 89; refine (findIn_calls t _ _ ad _ ((HB.out.cell (World.block_lt_of_cell? w _ HA.out)).trans HA.out)).mono ?_; rintro e w1 ⟨rfl, hb1⟩; have HB1 := Lib.hid hb1; clear hb1)
      · go_ret
        exact ⟨ret_int (findW_at HX.out HJ.out (by simpa using ‹(x.1 == t) = true›)).symm, HB.out.trans (HB1.out.mono HB.out.size)⟩
      · go_roundw
        case rel => exact ⟨k + 1, by omega, by go_num, all_snoc HX.out HJ.out (by simpa using ‹(x.1 == t) = false›), HB.out.trans (HB1.out.mono HB.out.size)⟩
        case measure => simp [intOf]; omega
    · go_wp2
      go_ret
      have h := HJ.out
      rw [take_all (by omega)] at h
      exact ⟨ret_int (findW_no h).symm, HB.out⟩

theorem find_calls (f l : Int) (v : Value) (q : List (Int × Int)) (t : Int) (w : World) (h : PRow w v q) :
    Calls Try.prog 71 #[.agg #[.int .i64 f, .int .i64 l, v], .int .i64 t] w fun e w' => e = .returned (.int .i64 (findW t q)) ∧ Below w.heap.size w w' := by
  have hb0 : Below w.heap.size w ((w.alloc (.cells #[.int .i64 f, .int .i64 l, v] 48)).alloc (.cells #[.int .i64 t] 3)) := ((Below.refl _ _).alloc (Nat.le_refl _) _).alloc (by simp) _
  have HB := Lib.hid hb0; clear hb0
  go_enter Try.func71, Try.ntmps71
  go_wp2_with (go_at_call 88; refine (IndexFunc_calls _ q t _ _ (h.below HB.out) (box1 (heap_at1 w _ _)).1).mono ?_; rintro e w1 ⟨rfl, hb1⟩)
  go_ret
  exact ⟨rfl, HB.out.trans (hb1.mono HB.out.size)⟩
end Go.Proofs.Ytmmkbiljjhigfaa
