/- The exact laws' helpers on Want and slices of it: what they do (made by gen_el.py). -/
import Derived.Test.YtbnfhnfnbhigoaaDoorExI
import Derived.Test.YtbnfhnfnbhigoaaDoorWant
namespace Go.Proofs.YtbnfhnfnbhigoaaDoor
open Go.RowKit
set_option linter.unusedSimpArgs false
set_option linter.unusedVariables false
theorem szWantS_calls (a : Option Addr) (n c : Nat) (left : Int) (w : World) (hn : n ≤ 9223372036854775807) (h0 : 0 ≤ left) (h1 : left ≤ 1048576) :
    Calls Tryd.prog 20 #[.slice a n c, .int .i64 left] w fun e w' => e = .returned (.int .i64 (szF left n)) ∧ w = w' := by
  by_cases h : (n : Int) ≤ left
  · go_enter Tryd.func20, Tryd.ntmps20
    go_wp2
    go_ret
    exact ⟨ret_int (by rw [szF, if_pos h]), rfl⟩
  · go_enter Tryd.func20, Tryd.ntmps20
    go_wp2
    go_ret
    exact ⟨ret_int (by rw [szF, if_neg (by omega)]), rfl⟩
theorem info_Want : (Tryd.prog.info? 45).map (fun i => (i.zero, i.size, i.bytes)) = some (some (.agg #[.int .i64 0, .bool false]), 2, 16) := by kernel_rfl
theorem toWant_calls (x : Int × Bool) (w : World) :
    Calls Tryd.prog 43 #[.agg #[.int .i64 x.1, .bool x.2]] w fun e w' => e = .returned (.agg #[.int .i64 x.1, .bool x.2]) ∧ Below w.heap.size w w' := by
  go_enter Tryd.func43, Tryd.ntmps43
  go_wp2
  refine bodyPost_ret (v := .agg #[.int .i64 x.1, .bool x.2]) (by simp [results, Tryd.results43, go_sem]) rfl ⟨rfl, (by repeat (first | (with_reducible assumption) | (with_reducible exact Below.refl _ _) | (refine Below.setCell ?_ (by first | omega | (simp only [szA, szS, szD, World.heap_drewN] at * <;> omega)) _) | (refine Below.alloc ?_ (by first | omega | (simp only [szA, szS, szD, World.heap_drewN] at * <;> omega)) _) | refine Below.drew ?_))⟩
set_option maxHeartbeats 1600000 in
theorem toWantS_calls (v : Value) (xs : List (Int × Bool)) (w : World) (h : WRow w v xs) (hn : xs.length ≤ 1048576) :
    Calls Tryd.prog 24 #[v] w fun e w' => ∃ v', e = .returned v' ∧ Own w.heap.size 45 2 encW w' v' xs ∧ Below w.heap.size w w' := by
  obtain ⟨a, c, rfl, l, m, r⟩ := h.look
  have R := Lib.hid r; clear r
  have hm : xs.length ≤ 9223372036854775807 := by omega
  have hmk := run_mk (P := Tryd.prog) 28 45 _ 2 16 Tryd.underlying28 info_Want xs.length (by omega) hn
  go_enter Tryd.func24, Tryd.ntmps24
  go_wp2
  go_loopw [4] (fun i wr => ∃ k : Nat, k ≤ xs.length ∧ i = .int .i64 k ∧ Own w.heap.size 45 2 encW wr (.slice (some ⟨w.heap.size, 0, none⟩) k xs.length) (xs.take k) ∧ Below w.heap.size w wr ∧ w.heap.size < wr.heap.size) (fun i _ => xs.length - (intOf i).toNat)
  case atStart => exact ⟨0, Nat.zero_le _, rfl, Own.made w _ _ hn, (Below.refl _ _).alloc (Nat.le_refl _) _, by simp⟩
  case round =>
    obtain ⟨k, hk, rfl, ho, hb, hz⟩ := hrel
    have HO := Lib.hid ho; clear ho
    have HB := Lib.hid hb; clear hb
    by_cases hlt : k < xs.length
    · obtain ⟨b, o, rfl, hb1, hc1⟩ := R.out (by omega)
      obtain ⟨x, hx⟩ := get_ex hlt
      have hk1 := (HB.out.cell (p := ⟨b, o + k * 2, none⟩) hb1).trans (hc1 k x hx).1
      have hk2 := (HB.out.cell (p := ⟨b, o + k * 2 + 1, none⟩) hb1).trans (hc1 k x hx).2
      have HX := Lib.hid hx; clear hx hc1
      go_wp2_with (go_at_call 43; refine (toWant_calls x _).mono ?_; rintro e w1 ⟨rfl, hb⟩; have HB1 := Lib.hid hb; have hz1 := hb.size; clear hb; have HO1 := Lib.hid (HO.out.kept HB1.out); obtain ⟨⟨u0, hu0⟩, hf0⟩ := HO1.out.room (i := k * 2) (by omega); obtain ⟨⟨u1, hu1⟩, hf1⟩ := HO1.out.room (i := k * 2 + 1) (by omega))
      go_roundw
      case rel => exact ⟨k + 1, by omega, by go_num, by rw [take_snoc HX.out]; exact HO1.out.next2 hlt rfl, ((HB.out.trans (HB1.out.mono (by omega))).setCell (p := ⟨w.heap.size, k * 2, none⟩) (Nat.le_refl _) _).setCell (p := ⟨w.heap.size, k * 2 + 1, none⟩) (Nat.le_refl _) _, by simp only [szS]; omega⟩
      case measure => simp [intOf]; omega
    · have e : k = xs.length := by omega
      have E := Lib.hid e; clear e
      go_wp2
      go_ret
      refine ⟨_, rfl, ?_, HB.out⟩
      have h := HO.out
      rw [E.out, take_all (Nat.le_refl _)] at h
      exact h
theorem eqWant_calls (x y : Int × Bool) (w : World) :
    Calls Tryd.prog 46 #[.agg #[.int .i64 x.1, .bool x.2], .agg #[.int .i64 y.1, .bool y.2]] w fun e w' => e = .returned (.bool (decide (x = y))) ∧ Below w.heap.size w w' := by
  obtain ⟨x1, x2⟩ := x
  obtain ⟨y1, y2⟩ := y
  dsimp only
  by_cases h1 : x1 = y1
  · have d1 : (x1 != y1) = false := by simpa using h1
    have H1 := Lib.hid h1; clear h1
    by_cases h2 : x2 = y2
    · subst h2
      go_enter Tryd.func46, Tryd.ntmps46
      go_wp2
      go_ret
      exact ⟨ret_bool (decide_eq_true (by rw [H1.out])).symm, (by repeat (first | (with_reducible assumption) | (with_reducible exact Below.refl _ _) | (refine Below.setCell ?_ (by first | omega | (simp only [szA, szS, szD, World.heap_drewN] at * <;> omega)) _) | (refine Below.alloc ?_ (by first | omega | (simp only [szA, szS, szD, World.heap_drewN] at * <;> omega)) _) | refine Below.drew ?_))⟩
    · cases x2 <;> cases y2
      · exact absurd rfl h2
      · clear h2
        go_enter Tryd.func46, Tryd.ntmps46
        go_wp2
        go_ret
        exact ⟨ret_bool (decide_eq_false (by simp)).symm, (by repeat (first | (with_reducible assumption) | (with_reducible exact Below.refl _ _) | (refine Below.setCell ?_ (by first | omega | (simp only [szA, szS, szD, World.heap_drewN] at * <;> omega)) _) | (refine Below.alloc ?_ (by first | omega | (simp only [szA, szS, szD, World.heap_drewN] at * <;> omega)) _) | refine Below.drew ?_))⟩
      · clear h2
        go_enter Tryd.func46, Tryd.ntmps46
        go_wp2
        go_ret
        exact ⟨ret_bool (decide_eq_false (by simp)).symm, (by repeat (first | (with_reducible assumption) | (with_reducible exact Below.refl _ _) | (refine Below.setCell ?_ (by first | omega | (simp only [szA, szS, szD, World.heap_drewN] at * <;> omega)) _) | (refine Below.alloc ?_ (by first | omega | (simp only [szA, szS, szD, World.heap_drewN] at * <;> omega)) _) | refine Below.drew ?_))⟩
      · exact absurd rfl h2
  · have d1 : (x1 != y1) = true := by simpa using h1
    have H1 := Lib.hid h1; clear h1
    go_enter Tryd.func46, Tryd.ntmps46
    go_wp2
    go_ret
    exact ⟨ret_bool (decide_eq_false (by intro e; injection e with e _; exact H1.out e)).symm, (by repeat (first | (with_reducible assumption) | (with_reducible exact Below.refl _ _) | (refine Below.setCell ?_ (by first | omega | (simp only [szA, szS, szD, World.heap_drewN] at * <;> omega)) _) | (refine Below.alloc ?_ (by first | omega | (simp only [szA, szS, szD, World.heap_drewN] at * <;> omega)) _) | refine Below.drew ?_))⟩
set_option maxHeartbeats 1600000 in
theorem eqWantS_calls (v1 v2 : Value) (p q : List (Int × Bool)) (w : World) (h1 : WRow w v1 p) (h2 : WRow w v2 q) :
    Calls Tryd.prog 29 #[v1, v2] w fun e w' => e = .returned (.bool (decide (p = q))) ∧ Below w.heap.size w w' := by
  obtain ⟨a1, c1, rfl, l1, m1, r1⟩ := h1.look
  obtain ⟨a2, c2, rfl, l2, m2, r2⟩ := h2.look
  have R1 := Lib.hid r1; clear r1
  have R2 := Lib.hid r2; clear r2
  have hm : p.length ≤ 9223372036854775807 := by omega
  by_cases hl : p.length = q.length
  · have hd := len_bne hl
    have HL := Lib.hid hl; clear hl
    go_enter Tryd.func29, Tryd.ntmps29
    go_wp2
    go_loopw [5] (fun i wr => ∃ k : Nat, k ≤ p.length ∧ i = .int .i64 k ∧ p.take k = q.take k ∧ Below w.heap.size w wr) (fun i _ => p.length - (intOf i).toNat)
    case atStart => exact ⟨0, Nat.zero_le _, rfl, rfl, Below.refl _ _⟩
    case round =>
      obtain ⟨k, hk, rfl, he, hb⟩ := hrel
      have HE := Lib.hid he; clear he
      have HB := Lib.hid hb; clear hb
      have hz := HB.out.size
      by_cases hlt : k < p.length
      · have hlt2 : k < q.length := by have := HL.out; omega
        obtain ⟨b1, o1, rfl, hb1, hc1⟩ := R1.out (by omega)
        obtain ⟨b2, o2, rfl, hb2, hc2⟩ := R2.out (by omega)
        obtain ⟨x, hx⟩ := get_ex hlt
        obtain ⟨y, hy⟩ := get_ex hlt2
        have k1 := later_cell (B := wr.heap.size) ((HB.out.cell (p := ⟨b1, o1 + k * 2, none⟩) hb1).trans (hc1 k x hx).1) (Nat.lt_of_lt_of_le hb1 hz)
        have k2 := later_cell (B := wr.heap.size) ((HB.out.cell (p := ⟨b1, o1 + k * 2 + 1, none⟩) hb1).trans (hc1 k x hx).2) (Nat.lt_of_lt_of_le hb1 hz)
        have k3 := later_cell (B := wr.heap.size) ((HB.out.cell (p := ⟨b2, o2 + k * 2, none⟩) hb2).trans (hc2 k y hy).1) (Nat.lt_of_lt_of_le hb2 hz)
        have k4 := later_cell (B := wr.heap.size) ((HB.out.cell (p := ⟨b2, o2 + k * 2 + 1, none⟩) hb2).trans (hc2 k y hy).2) (Nat.lt_of_lt_of_le hb2 hz)
        have HX := Lib.hid hx; clear hx hc1
        have HY := Lib.hid hy; clear hy hc2
        go_wp2
        refine wp_region_later wr.heap.size (by kernel_rfl) (by kernel_rfl) ?_
        repeat (go_big_quiet_step ((go_at_call 46; refine (eqWant_calls x y _).mono ?_; rintro e w' ⟨rfl, hb⟩; exact later_call hb)))
        refine wpQuiet_nil ?_
        rintro _ ⟨z, rfl⟩
        go_wp2
        · go_ret
          exact ⟨ret_bool (ne_false HX.out HY.out (by simpa using ‹(!decide (x = y)) = true›)).symm, HB.out.trans (z.2.mono hz)⟩
        · go_roundw
          case rel => exact ⟨k + 1, by omega, by go_num, take_eq HE.out HX.out HY.out (by simpa using ‹(!decide (x = y)) = false›), HB.out.trans (z.2.mono hz)⟩
          case measure => simp [intOf]; omega
      · go_wp2
        go_ret
        exact ⟨ret_bool (all_eq HL.out (by omega) HE.out).symm, HB.out⟩
  · have hd := len_bne' hl
    go_enter Tryd.func29, Tryd.ntmps29
    go_wp2
    go_ret
    exact ⟨ret_bool (len_false hl).symm, Below.refl _ _⟩
end Go.Proofs.YtbnfhnfnbhigoaaDoor
