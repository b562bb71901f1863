/- spec.l6Make: the operation of a kind with its numbers (made by gen_parse.py). -/
import Derived.Test.YthbnbofoefdneaaDoorParP
import Derived.Test.YthbnbofoefdneaaDoorFmtOpS
import Derived.Test.YthbnbofoefdneaaDoorG1
namespace Go.Proofs.YthbnbofoefdneaaDoor
open Go.RowKit
set_option linter.unusedSimpArgs false
set_option linter.unusedVariables false
theorem len_two {ns : List Int} (h : ns.length = 2) : ∃ x y, ns = [x, y] := by match ns, h with | [x, y], _ => exact ⟨x, y, rfl⟩
theorem makeB_0 {k x : Int} (h : argsN k = 0) : makeB k [x] = some (k, 0, x) := by unfold makeB; simp only []; rw [if_pos h]
theorem makeB_1 {k x : Int} (h : argsN k = 1) : makeB k [x] = some (k, x, 0) := by unfold makeB; simp only []; rw [if_neg (by omega), if_pos h]
theorem makeB_2 {k x y : Int} (h : argsN k = 2) : makeB k [x, y] = some (k, x, y) := by unfold makeB; simp only []; rw [if_pos h]
theorem makeB_no0 {k : Int} {ns : List Int} (h : argsN k = 0) (hl : ¬ ns.length = 1) : makeB k ns = none := by
  unfold makeB
  split
  · simp at hl
  · rw [if_neg (by omega)]
  · rfl
theorem makeB_no1 {k : Int} {ns : List Int} (h : argsN k = 1) (hl : ¬ ns.length = 1) : makeB k ns = none := by
  unfold makeB
  split
  · simp at hl
  · rw [if_neg (by omega)]
  · rfl
theorem makeB_no2 {k : Int} {ns : List Int} (h : argsN k = 2) (hl : ¬ ns.length = 2) : makeB k ns = none := by
  unfold makeB
  split
  · rw [if_neg (by omega), if_neg (by omega)]
  · simp at hl
  · rfl
set_option maxHeartbeats 3200000 in
theorem l6Make_calls (v : Value) (k : Int) (ns : List Int) (w : World) (h : IRow w v ns) :
    Calls Tryd.prog 18 #[.int .i64 k, v] w fun e w' => e = .returned (.tuple #[opv (optO (makeB k ns)), .bool (makeB k ns).isSome]) ∧ Below w.heap.size w w' := by
  obtain ⟨a, cp, rfl, l1, l2, l3⟩ := h.look
  clear h
  have L3 := Lib.hid l3; clear l3
  rcases argsN_three k with ha | ha | ha
  · have HA := Lib.hid ha; clear ha
    by_cases hl : ns.length = 1
    · have d1 : ((ns.length : Int) == 1) = true := beq_iff_eq.2 (by omega)
      obtain ⟨n1, rfl⟩ : ∃ n1, ns = [n1] := List.length_eq_one_iff.1 hl
      obtain ⟨b, off, rfl, hb1, hc1⟩ := L3.out (by simp)
      have c0 := hc1 0 n1 rfl
      simp only [Nat.add_zero] at c0
      clear hc1 hl d1
      have g1 : b ≠ w.heap.size := by omega
      have g2 : b ≠ w.heap.size + 1 := by omega
      go_enter Tryd.func18, Tryd.ntmps18
      obtain ⟨w1, hw⟩ : ∃ x : World, x = ((w.alloc (.cells #[.int .i64 0, .int .i64 0, .int .i64 0] 23)).alloc (.cells #[.int .i64 k, .int .i64 0, .int .i64 0] 23)) := ⟨_, rfl⟩
      have B1 := Lib.hid (show Below w.heap.size w w1 by rw [hw]; exact (Below.alloc (Below.alloc (Below.refl _ _) (by first | omega | (simp only [szA, szS, szD, World.heap_drewN] at * <;> omega)) _) (by first | omega | (simp only [szA, szS, szD, World.heap_drewN] at * <;> omega)) _))
      have N1 : w.heap.size + 2 ≤ w1.heap.size := (by rw [hw]; simp only [szS, szA]; omega)
      have Xr_1 := Lib.hid (show w1.heap[w.heap.size]? = some (.cells #[.int .i64 0, .int .i64 0, .int .i64 0] 23 (0, 0)) by rw [hw]; exact (heap_up (heap_at' (n := w.heap.size) (by first | omega | (simp only [szA, szS, szD, World.heap_drewN] at * <;> omega)))))
      have Xo_1 := Lib.hid (show w1.heap[w.heap.size + 1]? = some (.cells #[.int .i64 k, .int .i64 0, .int .i64 0] 23 (0, 0)) by rw [hw]; exact (heap_at' (n := w.heap.size + 1) (by first | omega | (simp only [szA, szS, szD, World.heap_drewN] at * <;> omega))))
      have Q1 := Lib.hid (show w1.heap.size = w.heap.size + 2 by rw [hw]; simp only [szS, szA])
      have HW1 := Lib.hid hw; clear hw
      obtain ⟨cr1_0, cr1_1, cr1_2, fr1_0, fr1_1, fr1_2⟩ := box3 Xr_1.out; have lr1 := heap_lt Xr_1.out
      obtain ⟨co1_0, co1_1, co1_2, fo1_0, fo1_1, fo1_2⟩ := box3 Xo_1.out; have lo1 := heap_lt Xo_1.out
      have S1 : w.heap.size ≤ w1.heap.size := (by omega)
      have c0 := (B1.out.cell (p := ⟨b, off, none⟩) hb1).trans c0
      go_wp2_with (rw [← HW1.out])
      refine (l6Args_calls k _).mono ?_
      rw [HA.out]
      rintro e wx ⟨rfl, rfl⟩
      go_wp2_with (fail)
      refine bodyPost_ret (v := .tuple #[.agg #[.int .i64 k, .int .i64 0, .int .i64 n1], .bool true]) (by simp [results, Tryd.results18, go_sem, cr1_0, cr1_1, cr1_2, lr1, co1_0, co1_1, co1_2, lo1]) rfl ⟨by rw [makeB_0 HA.out]; rfl, (below_setAt (below_setAt (below_setAt (below_setAt B1.out (w.heap.size + 1) 2 (by first | omega | (simp only [szA, szS, szD, World.heap_drewN] at * <;> omega)) (.int .i64 n1)) (w.heap.size) 0 (by first | omega | (simp only [szA, szS, szD, World.heap_drewN] at * <;> omega)) (.int .i64 k)) (w.heap.size) 1 (by first | omega | (simp only [szA, szS, szD, World.heap_drewN] at * <;> omega)) (.int .i64 0)) (w.heap.size) 2 (by first | omega | (simp only [szA, szS, szD, World.heap_drewN] at * <;> omega)) (.int .i64 n1))⟩
    · have d1 : ((ns.length : Int) == 1) = false := beq_eq_false_iff_ne.2 (by omega)
      have d2 : (ns.length == 1) = false := beq_eq_false_iff_ne.2 hl
      have HM := Lib.hid (makeB_no0 HA.out hl)
      clear hl
      go_enter Tryd.func18, Tryd.ntmps18
      obtain ⟨w1, hw⟩ : ∃ x : World, x = ((w.alloc (.cells #[.int .i64 0, .int .i64 0, .int .i64 0] 23)).alloc (.cells #[.int .i64 k, .int .i64 0, .int .i64 0] 23)) := ⟨_, rfl⟩
      have B1 := Lib.hid (show Below w.heap.size w w1 by rw [hw]; exact (Below.alloc (Below.alloc (Below.refl _ _) (by first | omega | (simp only [szA, szS, szD, World.heap_drewN] at * <;> omega)) _) (by first | omega | (simp only [szA, szS, szD, World.heap_drewN] at * <;> omega)) _))
      have N1 : w.heap.size + 2 ≤ w1.heap.size := (by rw [hw]; simp only [szS, szA]; omega)
      have Xr_1 := Lib.hid (show w1.heap[w.heap.size]? = some (.cells #[.int .i64 0, .int .i64 0, .int .i64 0] 23 (0, 0)) by rw [hw]; exact (heap_up (heap_at' (n := w.heap.size) (by first | omega | (simp only [szA, szS, szD, World.heap_drewN] at * <;> omega)))))
      have Xo_1 := Lib.hid (show w1.heap[w.heap.size + 1]? = some (.cells #[.int .i64 k, .int .i64 0, .int .i64 0] 23 (0, 0)) by rw [hw]; exact (heap_at' (n := w.heap.size + 1) (by first | omega | (simp only [szA, szS, szD, World.heap_drewN] at * <;> omega))))
      have Q1 := Lib.hid (show w1.heap.size = w.heap.size + 2 by rw [hw]; simp only [szS, szA])
      have HW1 := Lib.hid hw; clear hw
      obtain ⟨cr1_0, cr1_1, cr1_2, fr1_0, fr1_1, fr1_2⟩ := box3 Xr_1.out; have lr1 := heap_lt Xr_1.out
      obtain ⟨co1_0, co1_1, co1_2, fo1_0, fo1_1, fo1_2⟩ := box3 Xo_1.out; have lo1 := heap_lt Xo_1.out
      have S1 : w.heap.size ≤ w1.heap.size := (by omega)
      go_wp2_with (rw [← HW1.out])
      refine (l6Args_calls k _).mono ?_
      rw [HA.out]
      rintro e wx ⟨rfl, rfl⟩
      go_wp2_with (fail)
      refine (l6Args_calls k _).mono ?_
      rw [HA.out]
      rintro e wx ⟨rfl, rfl⟩
      go_wp2_with (fail)
      refine (l6Args_calls k _).mono ?_
      rw [HA.out]
      rintro e wx ⟨rfl, rfl⟩
      go_wp2_with (fail)
      refine bodyPost_ret (v := .tuple #[.agg #[.int .i64 0, .int .i64 0, .int .i64 0], .bool false]) (by simp [results, Tryd.results18, go_sem, cr1_0, cr1_1, cr1_2, lr1, co1_0, co1_1, co1_2, lo1]) rfl ⟨by rw [HM.out]; rfl, (below_setAt (below_setAt (below_setAt B1.out (w.heap.size) 0 (by first | omega | (simp only [szA, szS, szD, World.heap_drewN] at * <;> omega)) (.int .i64 0)) (w.heap.size) 1 (by first | omega | (simp only [szA, szS, szD, World.heap_drewN] at * <;> omega)) (.int .i64 0)) (w.heap.size) 2 (by first | omega | (simp only [szA, szS, szD, World.heap_drewN] at * <;> omega)) (.int .i64 0))⟩
  · have HA := Lib.hid ha; clear ha
    by_cases hl : ns.length = 1
    · have d1 : ((ns.length : Int) == 1) = true := beq_iff_eq.2 (by omega)
      obtain ⟨n1, rfl⟩ : ∃ n1, ns = [n1] := List.length_eq_one_iff.1 hl
      obtain ⟨b, off, rfl, hb1, hc1⟩ := L3.out (by simp)
      have c0 := hc1 0 n1 rfl
      simp only [Nat.add_zero] at c0
      clear hc1 hl d1
      have g1 : b ≠ w.heap.size := by omega
      have g2 : b ≠ w.heap.size + 1 := by omega
      go_enter Tryd.func18, Tryd.ntmps18
      obtain ⟨w1, hw⟩ : ∃ x : World, x = ((w.alloc (.cells #[.int .i64 0, .int .i64 0, .int .i64 0] 23)).alloc (.cells #[.int .i64 k, .int .i64 0, .int .i64 0] 23)) := ⟨_, rfl⟩
      have B1 := Lib.hid (show Below w.heap.size w w1 by rw [hw]; exact (Below.alloc (Below.alloc (Below.refl _ _) (by first | omega | (simp only [szA, szS, szD, World.heap_drewN] at * <;> omega)) _) (by first | omega | (simp only [szA, szS, szD, World.heap_drewN] at * <;> omega)) _))
      have N1 : w.heap.size + 2 ≤ w1.heap.size := (by rw [hw]; simp only [szS, szA]; omega)
      have Xr_1 := Lib.hid (show w1.heap[w.heap.size]? = some (.cells #[.int .i64 0, .int .i64 0, .int .i64 0] 23 (0, 0)) by rw [hw]; exact (heap_up (heap_at' (n := w.heap.size) (by first | omega | (simp only [szA, szS, szD, World.heap_drewN] at * <;> omega)))))
      have Xo_1 := Lib.hid (show w1.heap[w.heap.size + 1]? = some (.cells #[.int .i64 k, .int .i64 0, .int .i64 0] 23 (0, 0)) by rw [hw]; exact (heap_at' (n := w.heap.size + 1) (by first | omega | (simp only [szA, szS, szD, World.heap_drewN] at * <;> omega))))
      have Q1 := Lib.hid (show w1.heap.size = w.heap.size + 2 by rw [hw]; simp only [szS, szA])
      have HW1 := Lib.hid hw; clear hw
      obtain ⟨cr1_0, cr1_1, cr1_2, fr1_0, fr1_1, fr1_2⟩ := box3 Xr_1.out; have lr1 := heap_lt Xr_1.out
      obtain ⟨co1_0, co1_1, co1_2, fo1_0, fo1_1, fo1_2⟩ := box3 Xo_1.out; have lo1 := heap_lt Xo_1.out
      have S1 : w.heap.size ≤ w1.heap.size := (by omega)
      have c0 := (B1.out.cell (p := ⟨b, off, none⟩) hb1).trans c0
      go_wp2_with (rw [← HW1.out])
      refine (l6Args_calls k _).mono ?_
      rw [HA.out]
      rintro e wx ⟨rfl, rfl⟩
      go_wp2_with (fail)
      refine (l6Args_calls k _).mono ?_
      rw [HA.out]
      rintro e wx ⟨rfl, rfl⟩
      go_wp2_with (fail)
      refine bodyPost_ret (v := .tuple #[.agg #[.int .i64 k, .int .i64 n1, .int .i64 0], .bool true]) (by simp [results, Tryd.results18, go_sem, cr1_0, cr1_1, cr1_2, lr1, co1_0, co1_1, co1_2, lo1]) rfl ⟨by rw [makeB_1 HA.out]; rfl, (below_setAt (below_setAt (below_setAt (below_setAt B1.out (w.heap.size + 1) 1 (by first | omega | (simp only [szA, szS, szD, World.heap_drewN] at * <;> omega)) (.int .i64 n1)) (w.heap.size) 0 (by first | omega | (simp only [szA, szS, szD, World.heap_drewN] at * <;> omega)) (.int .i64 k)) (w.heap.size) 1 (by first | omega | (simp only [szA, szS, szD, World.heap_drewN] at * <;> omega)) (.int .i64 n1)) (w.heap.size) 2 (by first | omega | (simp only [szA, szS, szD, World.heap_drewN] at * <;> omega)) (.int .i64 0))⟩
    · have d1 : ((ns.length : Int) == 1) = false := beq_eq_false_iff_ne.2 (by omega)
      have d2 : (ns.length == 1) = false := beq_eq_false_iff_ne.2 hl
      have HM := Lib.hid (makeB_no1 HA.out hl)
      clear hl
      go_enter Tryd.func18, Tryd.ntmps18
      obtain ⟨w1, hw⟩ : ∃ x : World, x = ((w.alloc (.cells #[.int .i64 0, .int .i64 0, .int .i64 0] 23)).alloc (.cells #[.int .i64 k, .int .i64 0, .int .i64 0] 23)) := ⟨_, rfl⟩
      have B1 := Lib.hid (show Below w.heap.size w w1 by rw [hw]; exact (Below.alloc (Below.alloc (Below.refl _ _) (by first | omega | (simp only [szA, szS, szD, World.heap_drewN] at * <;> omega)) _) (by first | omega | (simp only [szA, szS, szD, World.heap_drewN] at * <;> omega)) _))
      have N1 : w.heap.size + 2 ≤ w1.heap.size := (by rw [hw]; simp only [szS, szA]; omega)
      have Xr_1 := Lib.hid (show w1.heap[w.heap.size]? = some (.cells #[.int .i64 0, .int .i64 0, .int .i64 0] 23 (0, 0)) by rw [hw]; exact (heap_up (heap_at' (n := w.heap.size) (by first | omega | (simp only [szA, szS, szD, World.heap_drewN] at * <;> omega)))))
      have Xo_1 := Lib.hid (show w1.heap[w.heap.size + 1]? = some (.cells #[.int .i64 k, .int .i64 0, .int .i64 0] 23 (0, 0)) by rw [hw]; exact (heap_at' (n := w.heap.size + 1) (by first | omega | (simp only [szA, szS, szD, World.heap_drewN] at * <;> omega))))
      have Q1 := Lib.hid (show w1.heap.size = w.heap.size + 2 by rw [hw]; simp only [szS, szA])
      have HW1 := Lib.hid hw; clear hw
      obtain ⟨cr1_0, cr1_1, cr1_2, fr1_0, fr1_1, fr1_2⟩ := box3 Xr_1.out; have lr1 := heap_lt Xr_1.out
      obtain ⟨co1_0, co1_1, co1_2, fo1_0, fo1_1, fo1_2⟩ := box3 Xo_1.out; have lo1 := heap_lt Xo_1.out
      have S1 : w.heap.size ≤ w1.heap.size := (by omega)
      go_wp2_with (rw [← HW1.out])
      refine (l6Args_calls k _).mono ?_
      rw [HA.out]
      rintro e wx ⟨rfl, rfl⟩
      go_wp2_with (fail)
      refine (l6Args_calls k _).mono ?_
      rw [HA.out]
      rintro e wx ⟨rfl, rfl⟩
      go_wp2_with (fail)
      refine (l6Args_calls k _).mono ?_
      rw [HA.out]
      rintro e wx ⟨rfl, rfl⟩
      go_wp2_with (fail)
      refine bodyPost_ret (v := .tuple #[.agg #[.int .i64 0, .int .i64 0, .int .i64 0], .bool false]) (by simp [results, Tryd.results18, go_sem, cr1_0, cr1_1, cr1_2, lr1, co1_0, co1_1, co1_2, lo1]) rfl ⟨by rw [HM.out]; rfl, (below_setAt (below_setAt (below_setAt B1.out (w.heap.size) 0 (by first | omega | (simp only [szA, szS, szD, World.heap_drewN] at * <;> omega)) (.int .i64 0)) (w.heap.size) 1 (by first | omega | (simp only [szA, szS, szD, World.heap_drewN] at * <;> omega)) (.int .i64 0)) (w.heap.size) 2 (by first | omega | (simp only [szA, szS, szD, World.heap_drewN] at * <;> omega)) (.int .i64 0))⟩
  · have HA := Lib.hid ha; clear ha
    by_cases hl : ns.length = 2
    · have d1 : ((ns.length : Int) == 2) = true := beq_iff_eq.2 (by omega)
      obtain ⟨n1, n2, rfl⟩ : ∃ n1 n2, ns = [n1, n2] := len_two hl
      obtain ⟨b, off, rfl, hb1, hc1⟩ := L3.out (by simp)
      have c0 := hc1 0 n1 rfl
      have c1 := hc1 1 n2 rfl
      simp only [Nat.add_zero] at c0
      clear hc1 hl d1
      have g1 : b ≠ w.heap.size := by omega
      have g2 : b ≠ w.heap.size + 1 := by omega
      go_enter Tryd.func18, Tryd.ntmps18
      obtain ⟨w1, hw⟩ : ∃ x : World, x = ((w.alloc (.cells #[.int .i64 0, .int .i64 0, .int .i64 0] 23)).alloc (.cells #[.int .i64 k, .int .i64 0, .int .i64 0] 23)) := ⟨_, rfl⟩
      have B1 := Lib.hid (show Below w.heap.size w w1 by rw [hw]; exact (Below.alloc (Below.alloc (Below.refl _ _) (by first | omega | (simp only [szA, szS, szD, World.heap_drewN] at * <;> omega)) _) (by first | omega | (simp only [szA, szS, szD, World.heap_drewN] at * <;> omega)) _))
      have N1 : w.heap.size + 2 ≤ w1.heap.size := (by rw [hw]; simp only [szS, szA]; omega)
      have Xr_1 := Lib.hid (show w1.heap[w.heap.size]? = some (.cells #[.int .i64 0, .int .i64 0, .int .i64 0] 23 (0, 0)) by rw [hw]; exact (heap_up (heap_at' (n := w.heap.size) (by first | omega | (simp only [szA, szS, szD, World.heap_drewN] at * <;> omega)))))
      have Xo_1 := Lib.hid (show w1.heap[w.heap.size + 1]? = some (.cells #[.int .i64 k, .int .i64 0, .int .i64 0] 23 (0, 0)) by rw [hw]; exact (heap_at' (n := w.heap.size + 1) (by first | omega | (simp only [szA, szS, szD, World.heap_drewN] at * <;> omega))))
      have Q1 := Lib.hid (show w1.heap.size = w.heap.size + 2 by rw [hw]; simp only [szS, szA])
      have HW1 := Lib.hid hw; clear hw
      obtain ⟨cr1_0, cr1_1, cr1_2, fr1_0, fr1_1, fr1_2⟩ := box3 Xr_1.out; have lr1 := heap_lt Xr_1.out
      obtain ⟨co1_0, co1_1, co1_2, fo1_0, fo1_1, fo1_2⟩ := box3 Xo_1.out; have lo1 := heap_lt Xo_1.out
      have S1 : w.heap.size ≤ w1.heap.size := (by omega)
      have c0 := (B1.out.cell (p := ⟨b, off, none⟩) hb1).trans c0
      have c1 := (B1.out.cell (p := ⟨b, off + 1, none⟩) hb1).trans c1
      go_wp2_with (rw [← HW1.out])
      refine (l6Args_calls k _).mono ?_
      rw [HA.out]
      rintro e wx ⟨rfl, rfl⟩
      go_wp2_with (fail)
      refine (l6Args_calls k _).mono ?_
      rw [HA.out]
      rintro e wx ⟨rfl, rfl⟩
      go_wp2_with (fail)
      refine (l6Args_calls k _).mono ?_
      rw [HA.out]
      rintro e wx ⟨rfl, rfl⟩
      go_wp2_with (fail)
      refine bodyPost_ret (v := .tuple #[.agg #[.int .i64 k, .int .i64 n1, .int .i64 n2], .bool true]) (by simp [results, Tryd.results18, go_sem, cr1_0, cr1_1, cr1_2, lr1, co1_0, co1_1, co1_2, lo1]) rfl ⟨by rw [makeB_2 HA.out]; rfl, (below_setAt (below_setAt (below_setAt (below_setAt (below_setAt B1.out (w.heap.size + 1) 1 (by first | omega | (simp only [szA, szS, szD, World.heap_drewN] at * <;> omega)) (.int .i64 n1)) (w.heap.size + 1) 2 (by first | omega | (simp only [szA, szS, szD, World.heap_drewN] at * <;> omega)) (.int .i64 n2)) (w.heap.size) 0 (by first | omega | (simp only [szA, szS, szD, World.heap_drewN] at * <;> omega)) (.int .i64 k)) (w.heap.size) 1 (by first | omega | (simp only [szA, szS, szD, World.heap_drewN] at * <;> omega)) (.int .i64 n1)) (w.heap.size) 2 (by first | omega | (simp only [szA, szS, szD, World.heap_drewN] at * <;> omega)) (.int .i64 n2))⟩
    · have d1 : ((ns.length : Int) == 2) = false := beq_eq_false_iff_ne.2 (by omega)
      have d2 : (ns.length == 2) = false := beq_eq_false_iff_ne.2 hl
      have HM := Lib.hid (makeB_no2 HA.out hl)
      clear hl
      go_enter Tryd.func18, Tryd.ntmps18
      obtain ⟨w1, hw⟩ : ∃ x : World, x = ((w.alloc (.cells #[.int .i64 0, .int .i64 0, .int .i64 0] 23)).alloc (.cells #[.int .i64 k, .int .i64 0, .int .i64 0] 23)) := ⟨_, rfl⟩
      have B1 := Lib.hid (show Below w.heap.size w w1 by rw [hw]; exact (Below.alloc (Below.alloc (Below.refl _ _) (by first | omega | (simp only [szA, szS, szD, World.heap_drewN] at * <;> omega)) _) (by first | omega | (simp only [szA, szS, szD, World.heap_drewN] at * <;> omega)) _))
      have N1 : w.heap.size + 2 ≤ w1.heap.size := (by rw [hw]; simp only [szS, szA]; omega)
      have Xr_1 := Lib.hid (show w1.heap[w.heap.size]? = some (.cells #[.int .i64 0, .int .i64 0, .int .i64 0] 23 (0, 0)) by rw [hw]; exact (heap_up (heap_at' (n := w.heap.size) (by first | omega | (simp only [szA, szS, szD, World.heap_drewN] at * <;> omega)))))
      have Xo_1 := Lib.hid (show w1.heap[w.heap.size + 1]? = some (.cells #[.int .i64 k, .int .i64 0, .int .i64 0] 23 (0, 0)) by rw [hw]; exact (heap_at' (n := w.heap.size + 1) (by first | omega | (simp only [szA, szS, szD, World.heap_drewN] at * <;> omega))))
      have Q1 := Lib.hid (show w1.heap.size = w.heap.size + 2 by rw [hw]; simp only [szS, szA])
      have HW1 := Lib.hid hw; clear hw
      obtain ⟨cr1_0, cr1_1, cr1_2, fr1_0, fr1_1, fr1_2⟩ := box3 Xr_1.out; have lr1 := heap_lt Xr_1.out
      obtain ⟨co1_0, co1_1, co1_2, fo1_0, fo1_1, fo1_2⟩ := box3 Xo_1.out; have lo1 := heap_lt Xo_1.out
      have S1 : w.heap.size ≤ w1.heap.size := (by omega)
      go_wp2_with (rw [← HW1.out])
      refine (l6Args_calls k _).mono ?_
      rw [HA.out]
      rintro e wx ⟨rfl, rfl⟩
      go_wp2_with (fail)
      refine (l6Args_calls k _).mono ?_
      rw [HA.out]
      rintro e wx ⟨rfl, rfl⟩
      go_wp2_with (fail)
      refine (l6Args_calls k _).mono ?_
      rw [HA.out]
      rintro e wx ⟨rfl, rfl⟩
      go_wp2_with (fail)
      refine bodyPost_ret (v := .tuple #[.agg #[.int .i64 0, .int .i64 0, .int .i64 0], .bool false]) (by simp [results, Tryd.results18, go_sem, cr1_0, cr1_1, cr1_2, lr1, co1_0, co1_1, co1_2, lo1]) rfl ⟨by rw [HM.out]; rfl, (below_setAt (below_setAt (below_setAt B1.out (w.heap.size) 0 (by first | omega | (simp only [szA, szS, szD, World.heap_drewN] at * <;> omega)) (.int .i64 0)) (w.heap.size) 1 (by first | omega | (simp only [szA, szS, szD, World.heap_drewN] at * <;> omega)) (.int .i64 0)) (w.heap.size) 2 (by first | omega | (simp only [szA, szS, szD, World.heap_drewN] at * <;> omega)) (.int .i64 0))⟩
end Go.Proofs.YthbnbofoefdneaaDoor
