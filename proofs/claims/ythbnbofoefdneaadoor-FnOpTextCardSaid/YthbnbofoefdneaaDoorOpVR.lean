/- impl.OpValid, by kinds (made by gen_opvalid.py). -/
import Derived.Test.YthbnbofoefdneaaDoorOpClo
import Derived.Test.YthbnbofoefdneaaDoorRg2
namespace Go.Proofs.YthbnbofoefdneaaDoor
open Go.RowKit
set_option linter.unusedSimpArgs false
set_option linter.unusedVariables false
set_option maxRecDepth 100000 in
set_option maxHeartbeats 16000000 in
theorem OpValid_0 (v : Value) (c : ProgD) (k : Int) (on ag : Int) (w : World) (h : ProgRow w v c) (hk : ¬ (1 ≤ k ∧ k ≤ 10)) :
    Calls Tryd.prog 12 #[v, .agg #[.int .i64 k, .int .i64 on, .int .i64 ag]] w fun e w' => e = .returned (.bool (opB c (k, on, ag))) ∧ Below w.heap.size w w' := by
  obtain ⟨a0, p0, a1, p1, a2, p2, a3, p3, a4, p4, rfl, r0, r1, r2, r3, r4⟩ := h
  have R0 := Lib.hid r0; clear r0 r1 r2 r3 r4
  have q1 : (k == 1) = false := beq_eq_false_iff_ne.2 (by omega)
  have q2 : (k == 2) = false := beq_eq_false_iff_ne.2 (by omega)
  have q3 : (k == 3) = false := beq_eq_false_iff_ne.2 (by omega)
  have q4 : (k == 4) = false := beq_eq_false_iff_ne.2 (by omega)
  have q5 : (k == 5) = false := beq_eq_false_iff_ne.2 (by omega)
  have q6 : (k == 6) = false := beq_eq_false_iff_ne.2 (by omega)
  have q7 : (k == 7) = false := beq_eq_false_iff_ne.2 (by omega)
  have q8 : (k == 8) = false := beq_eq_false_iff_ne.2 (by omega)
  have q9 : (k == 9) = false := beq_eq_false_iff_ne.2 (by omega)
  have q10 : (k == 10) = false := beq_eq_false_iff_ne.2 (by omega)
  go_enter Tryd.func12, Tryd.ntmps12
  go_wp2
  go_ret
  exact ⟨ret_bool (Eq.symm (by first | exact opB_no (by unfold OpOk Val; dsimp only; omega))), (Below.alloc (Below.alloc (Below.refl _ _) (by first | omega | (simp only [szA, szS, szD, World.heap_drewN] at * <;> omega)) _) (by first | omega | (simp only [szA, szS, szD, World.heap_drewN] at * <;> omega)) _)⟩
set_option maxRecDepth 100000 in
set_option maxHeartbeats 16000000 in
theorem OpValid_1 (v : Value) (c : ProgD) (on ag : Int) (w : World) (h : ProgRow w v c) :
    Calls Tryd.prog 12 #[v, .agg #[.int .i64 1, .int .i64 on, .int .i64 ag]] w fun e w' => e = .returned (.bool (opB c (1, on, ag))) ∧ Below w.heap.size w w' := by
  obtain ⟨a0, p0, a1, p1, a2, p2, a3, p3, a4, p4, rfl, r0, r1, r2, r3, r4⟩ := h
  have R0 := Lib.hid r0; clear r0 r1 r2 r3 r4
  by_cases hz : on = 0
  · subst hz
    cases hv : valB ag
    · have HV := Lib.hid hv; have hvv := valB_false.1 hv; unfold Val at hvv; clear hv
      go_enter Tryd.func12, Tryd.ntmps12
      go_wp2_with (fail)
      refine (isValue_calls ag _).mono ?_
      rw [HV.out]
      rintro e w' ⟨rfl, rfl⟩
      go_wp2
      go_ret
      exact ⟨ret_bool (Eq.symm (by first | exact opB_no (by unfold OpOk Val; dsimp only; omega))), (Below.alloc (Below.alloc (Below.refl _ _) (by first | omega | (simp only [szA, szS, szD, World.heap_drewN] at * <;> omega)) _) (by first | omega | (simp only [szA, szS, szD, World.heap_drewN] at * <;> omega)) _)⟩
    · have HV := Lib.hid hv; have hvv := valB_true.1 hv; unfold Val at hvv; clear hv
      go_enter Tryd.func12, Tryd.ntmps12
      go_wp2_with (fail)
      refine (isValue_calls ag _).mono ?_
      rw [HV.out]
      rintro e w' ⟨rfl, rfl⟩
      go_wp2
      go_ret
      exact ⟨ret_bool (Eq.symm (by first | exact opB_yes (by unfold OpOk Val; dsimp only; omega))), (Below.alloc (Below.alloc (Below.refl _ _) (by first | omega | (simp only [szA, szS, szD, World.heap_drewN] at * <;> omega)) _) (by first | omega | (simp only [szA, szS, szD, World.heap_drewN] at * <;> omega)) _)⟩
  · have q0 : (on == 0) = false := beq_eq_false_iff_ne.2 hz
    go_enter Tryd.func12, Tryd.ntmps12
    go_wp2
    go_ret
    exact ⟨ret_bool (Eq.symm (by first | exact opB_no (by unfold OpOk Val; dsimp only; omega))), (Below.alloc (Below.alloc (Below.refl _ _) (by first | omega | (simp only [szA, szS, szD, World.heap_drewN] at * <;> omega)) _) (by first | omega | (simp only [szA, szS, szD, World.heap_drewN] at * <;> omega)) _)⟩
set_option maxRecDepth 100000 in
set_option maxHeartbeats 16000000 in
theorem OpValid_4 (v : Value) (c : ProgD) (on ag : Int) (w : World) (h : ProgRow w v c) :
    Calls Tryd.prog 12 #[v, .agg #[.int .i64 4, .int .i64 on, .int .i64 ag]] w fun e w' => e = .returned (.bool (opB c (4, on, ag))) ∧ Below w.heap.size w w' := by
  obtain ⟨a0, p0, a1, p1, a2, p2, a3, p3, a4, p4, rfl, r0, r1, r2, r3, r4⟩ := h
  have R0 := Lib.hid r0; clear r0 r1 r2 r3 r4
  by_cases hz : 0 ≤ on ∧ on ≤ 2
  · obtain ⟨z1, z2⟩ := hz
    have d1 := decide_eq_true z1; have d2 := decide_eq_true z2
    cases hv : valB ag
    · have HV := Lib.hid hv; have hvv := valB_false.1 hv; unfold Val at hvv; clear hv
      go_enter Tryd.func12, Tryd.ntmps12
      go_wp2_with (fail)
      refine (isValue_calls ag _).mono ?_
      rw [HV.out]
      rintro e w' ⟨rfl, rfl⟩
      go_wp2
      go_ret
      exact ⟨ret_bool (Eq.symm (by first | exact opB_no (by unfold OpOk Val; dsimp only; omega))), (Below.alloc (Below.alloc (Below.refl _ _) (by first | omega | (simp only [szA, szS, szD, World.heap_drewN] at * <;> omega)) _) (by first | omega | (simp only [szA, szS, szD, World.heap_drewN] at * <;> omega)) _)⟩
    · have HV := Lib.hid hv; have hvv := valB_true.1 hv; unfold Val at hvv; clear hv
      go_enter Tryd.func12, Tryd.ntmps12
      go_wp2_with (fail)
      refine (isValue_calls ag _).mono ?_
      rw [HV.out]
      rintro e w' ⟨rfl, rfl⟩
      go_wp2
      go_ret
      exact ⟨ret_bool (Eq.symm (by first | exact opB_yes (by unfold OpOk Val; dsimp only; omega))), (Below.alloc (Below.alloc (Below.refl _ _) (by first | omega | (simp only [szA, szS, szD, World.heap_drewN] at * <;> omega)) _) (by first | omega | (simp only [szA, szS, szD, World.heap_drewN] at * <;> omega)) _)⟩
  · by_cases z1 : 0 ≤ on
    · have z2 : ¬ on ≤ 2 := fun e => hz ⟨z1, e⟩
      have d1 := decide_eq_true z1; have d2 := decide_eq_false z2
      go_enter Tryd.func12, Tryd.ntmps12
      go_wp2
      go_ret
      exact ⟨ret_bool (Eq.symm (by first | exact opB_no (by unfold OpOk Val; dsimp only; omega))), (Below.alloc (Below.alloc (Below.refl _ _) (by first | omega | (simp only [szA, szS, szD, World.heap_drewN] at * <;> omega)) _) (by first | omega | (simp only [szA, szS, szD, World.heap_drewN] at * <;> omega)) _)⟩
    · have d1 := decide_eq_false z1
      go_enter Tryd.func12, Tryd.ntmps12
      go_wp2
      go_ret
      exact ⟨ret_bool (Eq.symm (by first | exact opB_no (by unfold OpOk Val; dsimp only; omega))), (Below.alloc (Below.alloc (Below.refl _ _) (by first | omega | (simp only [szA, szS, szD, World.heap_drewN] at * <;> omega)) _) (by first | omega | (simp only [szA, szS, szD, World.heap_drewN] at * <;> omega)) _)⟩
set_option maxRecDepth 100000 in
set_option maxHeartbeats 16000000 in
theorem OpValid_5 (v : Value) (c : ProgD) (on ag : Int) (w : World) (h : ProgRow w v c) :
    Calls Tryd.prog 12 #[v, .agg #[.int .i64 5, .int .i64 on, .int .i64 ag]] w fun e w' => e = .returned (.bool (opB c (5, on, ag))) ∧ Below w.heap.size w w' := by
  obtain ⟨a0, p0, a1, p1, a2, p2, a3, p3, a4, p4, rfl, r0, r1, r2, r3, r4⟩ := h
  have R0 := Lib.hid r0; clear r0 r1 r2 r3 r4
  by_cases ho : 0 ≤ on ∧ on < (c.groups.length : Int)
  · have HO := onB_yes ho
    obtain ⟨ho1, ho2⟩ := ho
    by_cases h1 : -9 ≤ ag
    · have d1 := decide_eq_true h1
      by_cases h2 : ag ≤ 9
      · have d2 := decide_eq_true h2
        go_enter Tryd.func12, Tryd.ntmps12
        go_wp2_with (fail)
        refine (onClo_calls a1 c.groups.length p1 (w.heap.size + 1) on _ (box3 (heap_at' (n := w.heap.size + 1) (by first | omega | (simp only [szA, szS, szD, World.heap_drewN] at * <;> omega)))).2.1).mono ?_
        rw [HO]
        rintro e w' ⟨rfl, rfl⟩
        go_wp2
        go_ret
        exact ⟨ret_bool (Eq.symm (by first | exact opB_yes (by unfold OpOk Val; dsimp only; omega))), (Below.alloc (Below.alloc (Below.refl _ _) (by first | omega | (simp only [szA, szS, szD, World.heap_drewN] at * <;> omega)) _) (by first | omega | (simp only [szA, szS, szD, World.heap_drewN] at * <;> omega)) _)⟩
      · have d2 := decide_eq_false h2
        go_enter Tryd.func12, Tryd.ntmps12
        go_wp2_with (fail)
        refine (onClo_calls a1 c.groups.length p1 (w.heap.size + 1) on _ (box3 (heap_at' (n := w.heap.size + 1) (by first | omega | (simp only [szA, szS, szD, World.heap_drewN] at * <;> omega)))).2.1).mono ?_
        rw [HO]
        rintro e w' ⟨rfl, rfl⟩
        go_wp2
        go_ret
        exact ⟨ret_bool (Eq.symm (by first | exact opB_no (by unfold OpOk Val; dsimp only; omega))), (Below.alloc (Below.alloc (Below.refl _ _) (by first | omega | (simp only [szA, szS, szD, World.heap_drewN] at * <;> omega)) _) (by first | omega | (simp only [szA, szS, szD, World.heap_drewN] at * <;> omega)) _)⟩
    · have d1 := decide_eq_false h1
      go_enter Tryd.func12, Tryd.ntmps12
      go_wp2_with (fail)
      refine (onClo_calls a1 c.groups.length p1 (w.heap.size + 1) on _ (box3 (heap_at' (n := w.heap.size + 1) (by first | omega | (simp only [szA, szS, szD, World.heap_drewN] at * <;> omega)))).2.1).mono ?_
      rw [HO]
      rintro e w' ⟨rfl, rfl⟩
      go_wp2
      go_ret
      exact ⟨ret_bool (Eq.symm (by first | exact opB_no (by unfold OpOk Val; dsimp only; omega))), (Below.alloc (Below.alloc (Below.refl _ _) (by first | omega | (simp only [szA, szS, szD, World.heap_drewN] at * <;> omega)) _) (by first | omega | (simp only [szA, szS, szD, World.heap_drewN] at * <;> omega)) _)⟩
  · have HO := onB_no ho
    go_enter Tryd.func12, Tryd.ntmps12
    go_wp2_with (fail)
    refine (onClo_calls a1 c.groups.length p1 (w.heap.size + 1) on _ (box3 (heap_at' (n := w.heap.size + 1) (by first | omega | (simp only [szA, szS, szD, World.heap_drewN] at * <;> omega)))).2.1).mono ?_
    rw [HO]
    rintro e w' ⟨rfl, rfl⟩
    go_wp2
    go_ret
    exact ⟨ret_bool (Eq.symm (by first | exact opB_no (by unfold OpOk Val; dsimp only; omega))), (Below.alloc (Below.alloc (Below.refl _ _) (by first | omega | (simp only [szA, szS, szD, World.heap_drewN] at * <;> omega)) _) (by first | omega | (simp only [szA, szS, szD, World.heap_drewN] at * <;> omega)) _)⟩
set_option maxRecDepth 100000 in
set_option maxHeartbeats 16000000 in
theorem OpValid_6 (v : Value) (c : ProgD) (on ag : Int) (w : World) (h : ProgRow w v c) :
    Calls Tryd.prog 12 #[v, .agg #[.int .i64 6, .int .i64 on, .int .i64 ag]] w fun e w' => e = .returned (.bool (opB c (6, on, ag))) ∧ Below w.heap.size w w' := by
  obtain ⟨a0, p0, a1, p1, a2, p2, a3, p3, a4, p4, rfl, r0, r1, r2, r3, r4⟩ := h
  have R0 := Lib.hid r0; clear r0 r1 r2 r3 r4
  by_cases ho : 0 ≤ on ∧ on < (c.groups.length : Int)
  · have HO := onB_yes ho
    obtain ⟨ho1, ho2⟩ := ho
    by_cases h1 : ag = 0
    · have d1 : (ag == 0) = true := beq_iff_eq.2 h1; have H1 := Lib.hid h1; clear h1
      go_enter Tryd.func12, Tryd.ntmps12
      go_wp2_with (fail)
      refine (onClo_calls a1 c.groups.length p1 (w.heap.size + 1) on _ (box3 (heap_at' (n := w.heap.size + 1) (by first | omega | (simp only [szA, szS, szD, World.heap_drewN] at * <;> omega)))).2.1).mono ?_
      rw [HO]
      rintro e w' ⟨rfl, rfl⟩
      go_wp2
      go_ret
      exact ⟨ret_bool (Eq.symm (by have := H1.out; exact opB_yes (by unfold OpOk Val; dsimp only; omega))), (Below.alloc (Below.alloc (Below.refl _ _) (by first | omega | (simp only [szA, szS, szD, World.heap_drewN] at * <;> omega)) _) (by first | omega | (simp only [szA, szS, szD, World.heap_drewN] at * <;> omega)) _)⟩
    · have d1 : (ag == 0) = false := beq_eq_false_iff_ne.2 h1
      go_enter Tryd.func12, Tryd.ntmps12
      go_wp2_with (fail)
      refine (onClo_calls a1 c.groups.length p1 (w.heap.size + 1) on _ (box3 (heap_at' (n := w.heap.size + 1) (by first | omega | (simp only [szA, szS, szD, World.heap_drewN] at * <;> omega)))).2.1).mono ?_
      rw [HO]
      rintro e w' ⟨rfl, rfl⟩
      go_wp2
      go_ret
      exact ⟨ret_bool (Eq.symm (by first | exact opB_no (by unfold OpOk Val; dsimp only; omega))), (Below.alloc (Below.alloc (Below.refl _ _) (by first | omega | (simp only [szA, szS, szD, World.heap_drewN] at * <;> omega)) _) (by first | omega | (simp only [szA, szS, szD, World.heap_drewN] at * <;> omega)) _)⟩
  · have HO := onB_no ho
    go_enter Tryd.func12, Tryd.ntmps12
    go_wp2_with (fail)
    refine (onClo_calls a1 c.groups.length p1 (w.heap.size + 1) on _ (box3 (heap_at' (n := w.heap.size + 1) (by first | omega | (simp only [szA, szS, szD, World.heap_drewN] at * <;> omega)))).2.1).mono ?_
    rw [HO]
    rintro e w' ⟨rfl, rfl⟩
    go_wp2
    go_ret
    exact ⟨ret_bool (Eq.symm (by first | exact opB_no (by unfold OpOk Val; dsimp only; omega))), (Below.alloc (Below.alloc (Below.refl _ _) (by first | omega | (simp only [szA, szS, szD, World.heap_drewN] at * <;> omega)) _) (by first | omega | (simp only [szA, szS, szD, World.heap_drewN] at * <;> omega)) _)⟩
set_option maxRecDepth 100000 in
set_option maxHeartbeats 16000000 in
theorem OpValid_7 (v : Value) (c : ProgD) (on ag : Int) (w : World) (h : ProgRow w v c) :
    Calls Tryd.prog 12 #[v, .agg #[.int .i64 7, .int .i64 on, .int .i64 ag]] w fun e w' => e = .returned (.bool (opB c (7, on, ag))) ∧ Below w.heap.size w w' := by
  obtain ⟨a0, p0, a1, p1, a2, p2, a3, p3, a4, p4, rfl, r0, r1, r2, r3, r4⟩ := h
  have R0 := Lib.hid r0; clear r0 r1 r2 r3 r4
  by_cases ho : 0 ≤ on ∧ on < (c.barriers.length : Int)
  · have HO := onB_yes ho
    obtain ⟨ho1, ho2⟩ := ho
    by_cases h1 : ag = 0
    · have d1 : (ag == 0) = true := beq_iff_eq.2 h1; have H1 := Lib.hid h1; clear h1
      go_enter Tryd.func12, Tryd.ntmps12
      go_wp2_with (fail)
      refine (onClo_calls a2 c.barriers.length p2 (w.heap.size + 1) on _ (box3 (heap_at' (n := w.heap.size + 1) (by first | omega | (simp only [szA, szS, szD, World.heap_drewN] at * <;> omega)))).2.1).mono ?_
      rw [HO]
      rintro e w' ⟨rfl, rfl⟩
      go_wp2
      go_ret
      exact ⟨ret_bool (Eq.symm (by have := H1.out; exact opB_yes (by unfold OpOk Val; dsimp only; omega))), (Below.alloc (Below.alloc (Below.refl _ _) (by first | omega | (simp only [szA, szS, szD, World.heap_drewN] at * <;> omega)) _) (by first | omega | (simp only [szA, szS, szD, World.heap_drewN] at * <;> omega)) _)⟩
    · have d1 : (ag == 0) = false := beq_eq_false_iff_ne.2 h1
      go_enter Tryd.func12, Tryd.ntmps12
      go_wp2_with (fail)
      refine (onClo_calls a2 c.barriers.length p2 (w.heap.size + 1) on _ (box3 (heap_at' (n := w.heap.size + 1) (by first | omega | (simp only [szA, szS, szD, World.heap_drewN] at * <;> omega)))).2.1).mono ?_
      rw [HO]
      rintro e w' ⟨rfl, rfl⟩
      go_wp2
      go_ret
      exact ⟨ret_bool (Eq.symm (by first | exact opB_no (by unfold OpOk Val; dsimp only; omega))), (Below.alloc (Below.alloc (Below.refl _ _) (by first | omega | (simp only [szA, szS, szD, World.heap_drewN] at * <;> omega)) _) (by first | omega | (simp only [szA, szS, szD, World.heap_drewN] at * <;> omega)) _)⟩
  · have HO := onB_no ho
    go_enter Tryd.func12, Tryd.ntmps12
    go_wp2_with (fail)
    refine (onClo_calls a2 c.barriers.length p2 (w.heap.size + 1) on _ (box3 (heap_at' (n := w.heap.size + 1) (by first | omega | (simp only [szA, szS, szD, World.heap_drewN] at * <;> omega)))).2.1).mono ?_
    rw [HO]
    rintro e w' ⟨rfl, rfl⟩
    go_wp2
    go_ret
    exact ⟨ret_bool (Eq.symm (by first | exact opB_no (by unfold OpOk Val; dsimp only; omega))), (Below.alloc (Below.alloc (Below.refl _ _) (by first | omega | (simp only [szA, szS, szD, World.heap_drewN] at * <;> omega)) _) (by first | omega | (simp only [szA, szS, szD, World.heap_drewN] at * <;> omega)) _)⟩
set_option maxRecDepth 100000 in
set_option maxHeartbeats 16000000 in
theorem OpValid_8 (v : Value) (c : ProgD) (on ag : Int) (w : World) (h : ProgRow w v c) :
    Calls Tryd.prog 12 #[v, .agg #[.int .i64 8, .int .i64 on, .int .i64 ag]] w fun e w' => e = .returned (.bool (opB c (8, on, ag))) ∧ Below w.heap.size w w' := by
  obtain ⟨a0, p0, a1, p1, a2, p2, a3, p3, a4, p4, rfl, r0, r1, r2, r3, r4⟩ := h
  have R0 := Lib.hid r0; clear r0 r1 r2 r3 r4
  by_cases ho : 0 ≤ on ∧ on < (c.rooms.length : Int)
  · have HO := onB_yes ho
    obtain ⟨ho1, ho2⟩ := ho
    cases hv : valB ag
    · have HV := Lib.hid hv; have hvv := valB_false.1 hv; unfold Val at hvv; clear hv
      go_enter Tryd.func12, Tryd.ntmps12
      go_wp2_with (fail)
      refine (onClo_calls a3 c.rooms.length p3 (w.heap.size + 1) on _ (box3 (heap_at' (n := w.heap.size + 1) (by first | omega | (simp only [szA, szS, szD, World.heap_drewN] at * <;> omega)))).2.1).mono ?_
      rw [HO]
      rintro e w' ⟨rfl, rfl⟩
      go_wp2_with (fail)
      refine (isValue_calls ag _).mono ?_
      rw [HV.out]
      rintro e w' ⟨rfl, rfl⟩
      go_wp2
      go_ret
      exact ⟨ret_bool (Eq.symm (by first | exact opB_no (by unfold OpOk Val; dsimp only; omega))), (Below.alloc (Below.alloc (Below.refl _ _) (by first | omega | (simp only [szA, szS, szD, World.heap_drewN] at * <;> omega)) _) (by first | omega | (simp only [szA, szS, szD, World.heap_drewN] at * <;> omega)) _)⟩
    · have HV := Lib.hid hv; have hvv := valB_true.1 hv; unfold Val at hvv; clear hv
      go_enter Tryd.func12, Tryd.ntmps12
      go_wp2_with (fail)
      refine (onClo_calls a3 c.rooms.length p3 (w.heap.size + 1) on _ (box3 (heap_at' (n := w.heap.size + 1) (by first | omega | (simp only [szA, szS, szD, World.heap_drewN] at * <;> omega)))).2.1).mono ?_
      rw [HO]
      rintro e w' ⟨rfl, rfl⟩
      go_wp2_with (fail)
      refine (isValue_calls ag _).mono ?_
      rw [HV.out]
      rintro e w' ⟨rfl, rfl⟩
      go_wp2
      go_ret
      exact ⟨ret_bool (Eq.symm (by first | exact opB_yes (by unfold OpOk Val; dsimp only; omega))), (Below.alloc (Below.alloc (Below.refl _ _) (by first | omega | (simp only [szA, szS, szD, World.heap_drewN] at * <;> omega)) _) (by first | omega | (simp only [szA, szS, szD, World.heap_drewN] at * <;> omega)) _)⟩
  · have HO := onB_no ho
    go_enter Tryd.func12, Tryd.ntmps12
    go_wp2_with (fail)
    refine (onClo_calls a3 c.rooms.length p3 (w.heap.size + 1) on _ (box3 (heap_at' (n := w.heap.size + 1) (by first | omega | (simp only [szA, szS, szD, World.heap_drewN] at * <;> omega)))).2.1).mono ?_
    rw [HO]
    rintro e w' ⟨rfl, rfl⟩
    go_wp2
    go_ret
    exact ⟨ret_bool (Eq.symm (by first | exact opB_no (by unfold OpOk Val; dsimp only; omega))), (Below.alloc (Below.alloc (Below.refl _ _) (by first | omega | (simp only [szA, szS, szD, World.heap_drewN] at * <;> omega)) _) (by first | omega | (simp only [szA, szS, szD, World.heap_drewN] at * <;> omega)) _)⟩
set_option maxRecDepth 100000 in
set_option maxHeartbeats 16000000 in
theorem OpValid_9 (v : Value) (c : ProgD) (on ag : Int) (w : World) (h : ProgRow w v c) :
    Calls Tryd.prog 12 #[v, .agg #[.int .i64 9, .int .i64 on, .int .i64 ag]] w fun e w' => e = .returned (.bool (opB c (9, on, ag))) ∧ Below w.heap.size w w' := by
  obtain ⟨a0, p0, a1, p1, a2, p2, a3, p3, a4, p4, rfl, r0, r1, r2, r3, r4⟩ := h
  have R0 := Lib.hid r0; clear r0 r1 r2 r3 r4
  by_cases ho : 0 ≤ on ∧ on < (c.rooms.length : Int)
  · have HO := onB_yes ho
    obtain ⟨ho1, ho2⟩ := ho
    by_cases h1 : ag = 0
    · have d1 : (ag == 0) = true := beq_iff_eq.2 h1; have H1 := Lib.hid h1; clear h1
      go_enter Tryd.func12, Tryd.ntmps12
      go_wp2_with (fail)
      refine (onClo_calls a3 c.rooms.length p3 (w.heap.size + 1) on _ (box3 (heap_at' (n := w.heap.size + 1) (by first | omega | (simp only [szA, szS, szD, World.heap_drewN] at * <;> omega)))).2.1).mono ?_
      rw [HO]
      rintro e w' ⟨rfl, rfl⟩
      go_wp2
      go_ret
      exact ⟨ret_bool (Eq.symm (by have := H1.out; exact opB_yes (by unfold OpOk Val; dsimp only; omega))), (Below.alloc (Below.alloc (Below.refl _ _) (by first | omega | (simp only [szA, szS, szD, World.heap_drewN] at * <;> omega)) _) (by first | omega | (simp only [szA, szS, szD, World.heap_drewN] at * <;> omega)) _)⟩
    · have d1 : (ag == 0) = false := beq_eq_false_iff_ne.2 h1
      go_enter Tryd.func12, Tryd.ntmps12
      go_wp2_with (fail)
      refine (onClo_calls a3 c.rooms.length p3 (w.heap.size + 1) on _ (box3 (heap_at' (n := w.heap.size + 1) (by first | omega | (simp only [szA, szS, szD, World.heap_drewN] at * <;> omega)))).2.1).mono ?_
      rw [HO]
      rintro e w' ⟨rfl, rfl⟩
      go_wp2
      go_ret
      exact ⟨ret_bool (Eq.symm (by first | exact opB_no (by unfold OpOk Val; dsimp only; omega))), (Below.alloc (Below.alloc (Below.refl _ _) (by first | omega | (simp only [szA, szS, szD, World.heap_drewN] at * <;> omega)) _) (by first | omega | (simp only [szA, szS, szD, World.heap_drewN] at * <;> omega)) _)⟩
  · have HO := onB_no ho
    go_enter Tryd.func12, Tryd.ntmps12
    go_wp2_with (fail)
    refine (onClo_calls a3 c.rooms.length p3 (w.heap.size + 1) on _ (box3 (heap_at' (n := w.heap.size + 1) (by first | omega | (simp only [szA, szS, szD, World.heap_drewN] at * <;> omega)))).2.1).mono ?_
    rw [HO]
    rintro e w' ⟨rfl, rfl⟩
    go_wp2
    go_ret
    exact ⟨ret_bool (Eq.symm (by first | exact opB_no (by unfold OpOk Val; dsimp only; omega))), (Below.alloc (Below.alloc (Below.refl _ _) (by first | omega | (simp only [szA, szS, szD, World.heap_drewN] at * <;> omega)) _) (by first | omega | (simp only [szA, szS, szD, World.heap_drewN] at * <;> omega)) _)⟩
set_option maxRecDepth 100000 in
set_option maxHeartbeats 16000000 in
theorem OpValid_10 (v : Value) (c : ProgD) (on ag : Int) (w : World) (h : ProgRow w v c) :
    Calls Tryd.prog 12 #[v, .agg #[.int .i64 10, .int .i64 on, .int .i64 ag]] w fun e w' => e = .returned (.bool (opB c (10, on, ag))) ∧ Below w.heap.size w w' := by
  obtain ⟨a0, p0, a1, p1, a2, p2, a3, p3, a4, p4, rfl, r0, r1, r2, r3, r4⟩ := h
  have R0 := Lib.hid r0; clear r0 r1 r2 r3 r4
  by_cases ho : 0 ≤ on ∧ on < (c.rooms.length : Int)
  · have HO := onB_yes ho
    obtain ⟨ho1, ho2⟩ := ho
    by_cases h1 : ag = 0
    · have d1 : (ag == 0) = true := beq_iff_eq.2 h1; have H1 := Lib.hid h1; clear h1
      go_enter Tryd.func12, Tryd.ntmps12
      go_wp2_with (fail)
      refine (onClo_calls a3 c.rooms.length p3 (w.heap.size + 1) on _ (box3 (heap_at' (n := w.heap.size + 1) (by first | omega | (simp only [szA, szS, szD, World.heap_drewN] at * <;> omega)))).2.1).mono ?_
      rw [HO]
      rintro e w' ⟨rfl, rfl⟩
      go_wp2
      go_ret
      exact ⟨ret_bool (Eq.symm (by have := H1.out; exact opB_yes (by unfold OpOk Val; dsimp only; omega))), (Below.alloc (Below.alloc (Below.refl _ _) (by first | omega | (simp only [szA, szS, szD, World.heap_drewN] at * <;> omega)) _) (by first | omega | (simp only [szA, szS, szD, World.heap_drewN] at * <;> omega)) _)⟩
    · have d1 : (ag == 0) = false := beq_eq_false_iff_ne.2 h1
      go_enter Tryd.func12, Tryd.ntmps12
      go_wp2_with (fail)
      refine (onClo_calls a3 c.rooms.length p3 (w.heap.size + 1) on _ (box3 (heap_at' (n := w.heap.size + 1) (by first | omega | (simp only [szA, szS, szD, World.heap_drewN] at * <;> omega)))).2.1).mono ?_
      rw [HO]
      rintro e w' ⟨rfl, rfl⟩
      go_wp2
      go_ret
      exact ⟨ret_bool (Eq.symm (by first | exact opB_no (by unfold OpOk Val; dsimp only; omega))), (Below.alloc (Below.alloc (Below.refl _ _) (by first | omega | (simp only [szA, szS, szD, World.heap_drewN] at * <;> omega)) _) (by first | omega | (simp only [szA, szS, szD, World.heap_drewN] at * <;> omega)) _)⟩
  · have HO := onB_no ho
    go_enter Tryd.func12, Tryd.ntmps12
    go_wp2_with (fail)
    refine (onClo_calls a3 c.rooms.length p3 (w.heap.size + 1) on _ (box3 (heap_at' (n := w.heap.size + 1) (by first | omega | (simp only [szA, szS, szD, World.heap_drewN] at * <;> omega)))).2.1).mono ?_
    rw [HO]
    rintro e w' ⟨rfl, rfl⟩
    go_wp2
    go_ret
    exact ⟨ret_bool (Eq.symm (by first | exact opB_no (by unfold OpOk Val; dsimp only; omega))), (Below.alloc (Below.alloc (Below.refl _ _) (by first | omega | (simp only [szA, szS, szD, World.heap_drewN] at * <;> omega)) _) (by first | omega | (simp only [szA, szS, szD, World.heap_drewN] at * <;> omega)) _)⟩
end Go.Proofs.YthbnbofoefdneaaDoor
