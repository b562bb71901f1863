/- spec.FormatOp: what it returns (made by gen_optext.py). -/
import Derived.Test.YthbnbofoefdneaaDoorOpText
import Derived.Test.YthbnbofoefdneaaDoorOpWord
import Derived.Test.YthbnbofoefdneaaDoorDec
import Derived.Test.YthbnbofoefdneaaDoorG1
namespace Go.Proofs.YthbnbofoefdneaaDoor
open Go.RowKit
set_option linter.unusedSimpArgs false
set_option linter.unusedVariables false
theorem l6Word_calls (k : Int) (w : World) :
    Calls Tryd.prog 17 #[.int .i64 k] w fun e w' => e = .returned (.string (wordB k)) ∧ Below w.heap.size w w' := by
  by_cases h : Kd k
  · rcases kd_ten h with rfl | rfl | rfl | rfl | rfl | rfl | rfl | rfl | rfl | rfl
    · exact l6Word_1 w
    · exact l6Word_2 w
    · exact l6Word_3 w
    · exact l6Word_4 w
    · exact l6Word_5 w
    · exact l6Word_6 w
    · exact l6Word_7 w
    · exact l6Word_8 w
    · exact l6Word_9 w
    · exact l6Word_10 w
  · rw [wordB_none h]; exact l6Word_0 k w h
theorem l6Args_calls (k : Int) (w : World) :
    Calls Tryd.prog 22 #[.int .i64 k] w fun e w' => e = .returned (.int .i64 (argsN k)) ∧ w = w' := by
  by_cases h : k = 6 ∨ k = 7 ∨ k = 9 ∨ k = 10 ∨ k = 1
  · rcases h with rfl | rfl | rfl | rfl | rfl
    all_goals
      go_enter Tryd.func22, Tryd.ntmps22
      go_wp2
      go_ret
      exact ⟨rfl, rfl⟩
  · have e : argsN k = 2 := by unfold argsN; rw [if_neg (by omega), if_neg (by omega), if_neg (by omega), if_neg (by omega), if_neg (by omega)]
    have d1 : (k == 6) = false := beq_eq_false_iff_ne.2 (by omega)
    have d2 : (k == 7) = false := beq_eq_false_iff_ne.2 (by omega)
    have d3 : (k == 9) = false := beq_eq_false_iff_ne.2 (by omega)
    have d4 : (k == 10) = false := beq_eq_false_iff_ne.2 (by omega)
    have d5 : (k == 1) = false := beq_eq_false_iff_ne.2 (by omega)
    have E := Lib.hid e; clear e h
    go_enter Tryd.func22, Tryd.ntmps22
    go_wp2
    go_ret
    exact ⟨by rw [E.out]; rfl, rfl⟩
set_option maxHeartbeats 3200000 in
theorem sFormatOp_calls (x : OpT) (w : World) (h1 : InB x.2.1) (h2 : InB x.2.2) :
    Calls Tryd.prog 10 #[.agg #[.int .i64 x.1, .int .i64 x.2.1, .int .i64 x.2.2]] w fun e w' => e = .returned (.string (opText x)) ∧ Below w.heap.size w w' := by
  obtain ⟨k, on, ar⟩ := x
  dsimp only at h1 h2
  obtain ⟨h1a, h1b⟩ := h1; obtain ⟨h2a, h2b⟩ := h2
  go_enter Tryd.func10, Tryd.ntmps10
  by_cases hk : Kd k
  · obtain ⟨hs1, hs2⟩ := wordB_size hk
    have hne := nonempty hs1
    have HK := Lib.hid hk; clear hk
    obtain ⟨s, hs⟩ : ∃ s, wordB k = s := ⟨_, rfl⟩
    rw [hs] at hs1 hs2 hne
    have HS := Lib.hid hs; clear hs
    go_wp2_with (fail)
    refine (l6Word_calls k _).mono ?_
    rw [HS.out]
    rintro e w1 ⟨rfl, hb⟩
    have B1 := Lib.hid (Below.trans (Below.alloc (Below.refl _ _) (by first | omega | (simp only [szA, szS, szD, World.heap_drewN] at * <;> omega)) _) (hb.mono (by first | omega | (simp only [szA, szS, szD, World.heap_drewN] at * <;> omega))) : Below w.heap.size w w1)
    have Z1 := hb.size
    have N1 : w.heap.size + 1 ≤ w1.heap.size := (by first | with_reducible exact Z1 | (simp only [szA, szS, szD] at Z1; omega))
    clear Z1
    have Xo_1 : Hid (w1.heap[w.heap.size]? = some (.cells #[.int .i64 k, .int .i64 on, .int .i64 ar] 23 (0, 0))) := below_at hb (heap_at' (n := w.heap.size) (by first | omega | (simp only [szA, szS, szD, World.heap_drewN] at * <;> omega)))
    clear hb
    obtain ⟨co1_0, co1_1, co1_2, fo1_0, fo1_1, fo1_2⟩ := box3 Xo_1.out; have lo1 := heap_lt Xo_1.out
    have S1 : w.heap.size ≤ w1.heap.size := (by omega)
    obtain ⟨so, hso⟩ : ∃ s, itoaB on = s := ⟨_, rfl⟩
    obtain ⟨sa, hsa⟩ : ∃ s, itoaB ar = s := ⟨_, rfl⟩
    have hzo : so.size ≤ 21 := by rw [← hso]; exact itoaB_size h1a h1b
    have hza : sa.size ≤ 21 := by rw [← hsa]; exact itoaB_size h2a h2b
    have HSO := Lib.hid hso; have HSA := Lib.hid hsa; clear hso hsa
    rcases argsN_three k with ha | ha | ha
    · have HA := Lib.hid ha; clear ha
      have HT := Lib.hid (opText_0 (x := (k, on, ar)) HK.out HA.out)
      go_wp2_with (fail)
      refine (l6Args_calls k _).mono ?_
      rw [HA.out]
      rintro e wx ⟨rfl, rfl⟩
      go_wp2_with (fail)
      refine (l13Dec_calls ar _ (by omega) (by omega)).mono ?_
      rw [HSA.out]
      rintro e w2 ⟨rfl, hb⟩
      have B2 := Lib.hid (Below.trans B1.out (hb.mono (by first | omega | (simp only [szA, szS, szD, World.heap_drewN] at * <;> omega))) : Below w.heap.size w w2)
      have Z2 := hb.size
      have N2 : w1.heap.size ≤ w2.heap.size := (by first | with_reducible exact Z2 | (simp only [szA, szS, szD] at Z2; omega))
      clear Z2
      have Xo_2 := Lib.hid (below_at hb Xo_1.out)
      clear hb
      obtain ⟨co2_0, co2_1, co2_2, fo2_0, fo2_1, fo2_2⟩ := box3 Xo_2.out; have lo2 := heap_lt Xo_2.out
      have S2 : w.heap.size ≤ w2.heap.size := (by omega)
      clear co1_0 co1_1 co1_2 fo1_0 fo1_1 fo1_2
      go_wp2
      go_ret
      exact ⟨by rw [HT.out, HS.out, HSA.out]; rfl, B2.out⟩
    · have HA := Lib.hid ha; clear ha
      have HT := Lib.hid (opText_1 (x := (k, on, ar)) HK.out HA.out)
      go_wp2_with (fail)
      refine (l6Args_calls k _).mono ?_
      rw [HA.out]
      rintro e wx ⟨rfl, rfl⟩
      go_wp2_with (fail)
      refine (l6Args_calls k _).mono ?_
      rw [HA.out]
      rintro e wx ⟨rfl, rfl⟩
      go_wp2_with (fail)
      refine (l13Dec_calls on _ (by omega) (by omega)).mono ?_
      rw [HSO.out]
      rintro e w2 ⟨rfl, hb⟩
      have B2 := Lib.hid (Below.trans B1.out (hb.mono (by first | omega | (simp only [szA, szS, szD, World.heap_drewN] at * <;> omega))) : Below w.heap.size w w2)
      have Z2 := hb.size
      have N2 : w1.heap.size ≤ w2.heap.size := (by first | with_reducible exact Z2 | (simp only [szA, szS, szD] at Z2; omega))
      clear Z2
      have Xo_2 := Lib.hid (below_at hb Xo_1.out)
      clear hb
      obtain ⟨co2_0, co2_1, co2_2, fo2_0, fo2_1, fo2_2⟩ := box3 Xo_2.out; have lo2 := heap_lt Xo_2.out
      have S2 : w.heap.size ≤ w2.heap.size := (by omega)
      clear co1_0 co1_1 co1_2 fo1_0 fo1_1 fo1_2
      go_wp2
      go_ret
      exact ⟨by rw [HT.out, HS.out, HSO.out]; rfl, B2.out⟩
    · have HA := Lib.hid ha; clear ha
      have HT := Lib.hid (opText_2 (x := (k, on, ar)) HK.out HA.out)
      go_wp2_with (fail)
      refine (l6Args_calls k _).mono ?_
      rw [HA.out]
      rintro e wx ⟨rfl, rfl⟩
      go_wp2_with (fail)
      refine (l6Args_calls k _).mono ?_
      rw [HA.out]
      rintro e wx ⟨rfl, rfl⟩
      have z1 : (s ++ ⟨#[32]⟩).size = s.size + 1 := (by rw [ByteArray.size_append]; rfl)
      have z2 : (s ++ ⟨#[32]⟩ ++ so).size = s.size + 1 + so.size := (by rw [ByteArray.size_append, z1])
      have z3 : (s ++ ⟨#[32]⟩ ++ so ++ ⟨#[32]⟩).size = s.size + 1 + so.size + 1 := (by rw [ByteArray.size_append, z2]; rfl)
      have z4 : (s ++ ⟨#[32]⟩ ++ so ++ ⟨#[32]⟩ ++ sa).size = s.size + 1 + so.size + 1 + sa.size := (by rw [ByteArray.size_append, z3])
      have E0 : ∀ w : World, (Op.stringOp .add s ⟨#[32]⟩).run Tryd.prog w = .ok (.string (s ++ ⟨#[32]⟩)) w := fun w => run_string_add_sum w _ _ (by rw [← ByteArray.size_append, z1]; omega)
      have E1 : ∀ w : World, (Op.stringOp .add (s ++ ⟨#[32]⟩) so).run Tryd.prog w = .ok (.string ((s ++ ⟨#[32]⟩) ++ so)) w := fun w => run_string_add_sum w _ _ (by rw [← ByteArray.size_append, z2]; omega)
      have E2 : ∀ w : World, (Op.stringOp .add (s ++ ⟨#[32]⟩ ++ so) ⟨#[32]⟩).run Tryd.prog w = .ok (.string ((s ++ ⟨#[32]⟩ ++ so) ++ ⟨#[32]⟩)) w := fun w => run_string_add_sum w _ _ (by rw [← ByteArray.size_append, z3]; omega)
      have E3 : ∀ w : World, (Op.stringOp .add (s ++ ⟨#[32]⟩ ++ so ++ ⟨#[32]⟩) sa).run Tryd.prog w = .ok (.string ((s ++ ⟨#[32]⟩ ++ so ++ ⟨#[32]⟩) ++ sa)) w := fun w => run_string_add_sum w _ _ (by rw [← ByteArray.size_append, z4]; omega)
      clear z1 z2 z3 z4
      go_wp2_with (fail)
      have hN0 : w1.heap.size ≤ w1.heap.size := (by first | omega | (simp only [szA, szS, szD, World.heap_drewN] at * <;> omega))
      refine wp_region_L [⟨0, false, [], fun _ v _ => v = .string s⟩, ⟨1, false, [0], fun _ v _ => v = .string (s ++ ⟨#[32]⟩)⟩, ⟨2, false, [], fun _ v _ => v = .pointer (some ⟨w.heap.size, 1, none⟩)⟩, ⟨3, false, [2], fun _ v _ => v = .int .i64 on⟩, ⟨4, false, [2, 3], fun _ v _ => v = .string so⟩, ⟨5, false, [0, 1, 2, 3, 4], fun _ v _ => v = .string (s ++ ⟨#[32]⟩ ++ so)⟩, ⟨6, false, [0, 1, 2, 3, 4, 5], fun _ v _ => v = .string (s ++ ⟨#[32]⟩ ++ so ++ ⟨#[32]⟩)⟩, ⟨7, false, [], fun _ v _ => v = .pointer (some ⟨w.heap.size, 2, none⟩)⟩, ⟨8, false, [7], fun _ v _ => v = .int .i64 ar⟩, ⟨9, false, [7, 8], fun _ v _ => v = .string sa⟩, ⟨10, false, [0, 1, 2, 3, 4, 5, 6, 7, 8, 9], fun _ v _ => v = .string (s ++ ⟨#[32]⟩ ++ so ++ ⟨#[32]⟩ ++ sa)⟩, ⟨11, false, [0, 1, 2, 3, 4, 5, 6, 7, 8, 9, 10], fun _ v _ => v = .string (s ++ ⟨#[32]⟩ ++ so ++ ⟨#[32]⟩ ++ sa)⟩] [(0, some 32), (1, some 33), (2, some 34), (3, some 35), (4, some 36), (5, some 37), (6, some 38), (7, some 39), (8, some 40), (9, some 41), (10, some 42), (11, some 2)] (fun _ w' => Below w.heap.size w w' ∧ w1.heap.size ≤ w'.heap.size ∧ w'.heap[w.heap.size]? = some (.cells #[.int .i64 k, .int .i64 on, .int .i64 ar] 23 (0, 0))) (fun _ _ _ => True) (by kernel_rfl) (by rfl) (by kernel_rfl) (by kernel_rfl) ⟨(B1.out).drew, hN0, (heap_drew Xo_1.out)⟩ (GoalsL.cons ?_ (GoalsL.cons ?_ (GoalsL.cons ?_ (GoalsL.cons ?_ (GoalsL.cons ?_ (GoalsL.cons ?_ (GoalsL.cons ?_ (GoalsL.cons ?_ (GoalsL.cons ?_ (GoalsL.cons ?_ (GoalsL.cons ?_ (GoalsL.cons ?_ (GoalsL.nil))))))))))))) ?_
      · refine GoalL.mk (by rfl) ⟨fun _ _ _ _ _ h => h, fun _ _ _ _ _ _ h => h⟩ ?_
        intro f u wq hf hC hD K hK
        have hA := hC.1; have hN := hC.2.1; have x_o := hC.2.2; clear hC
        clear hD
        simp only [putL, Act.put, List.setIfInBounds_toArray, List.set_cons_zero, List.set_cons_succ] at hK ⊢
        refine Closed.mk ?_
        go_simp
        exact hK.out _ _ ⟨hA, hN, x_o⟩ trivial rfl
      · refine GoalL.mk (by rfl) ⟨fun _ _ _ _ _ h => h, fun _ _ _ _ _ _ h => h⟩ ?_
        intro f u wq hf hC hD K hK
        have hA := hC.1; have hN := hC.2.1; have x_o := hC.2.2; clear hC
        have d0 := hD.1; clear hD
        have e0 : u 0 = .string s := d0; clear d0
        simp only [putL, Act.put, List.setIfInBounds_toArray, List.set_cons_zero, List.set_cons_succ, e0] at hK ⊢
        refine Closed.mk ?_
        go_simp
        exact hK.out _ _ ⟨hA, hN, x_o⟩ trivial rfl
      · refine GoalL.mk (by rfl) ⟨fun _ _ _ _ _ h => h, fun _ _ _ _ _ _ h => h⟩ ?_
        intro f u wq hf hC hD K hK
        have hA := hC.1; have hN := hC.2.1; have x_o := hC.2.2; clear hC
        clear hD
        simp only [putL, Act.put, List.setIfInBounds_toArray, List.set_cons_zero, List.set_cons_succ] at hK ⊢
        refine Closed.mk ?_
        go_simp
        exact hK.out _ _ ⟨hA, hN, x_o⟩ trivial rfl
      · refine GoalL.mk (by rfl) ⟨fun _ _ _ _ _ h => h, fun _ _ _ _ _ _ h => h⟩ ?_
        intro f u wq hf hC hD K hK
        have hA := hC.1; have hN := hC.2.1; have x_o := hC.2.2; clear hC
        have d2 := hD.1; clear hD
        have e2 : u 2 = .pointer (some ⟨w.heap.size, 1, none⟩) := d2; clear d2
        simp only [putL, Act.put, List.setIfInBounds_toArray, List.set_cons_zero, List.set_cons_succ, e2] at hK ⊢
        obtain ⟨ko_0, ko_1, ko_2, fo_0, fo_1, fo_2⟩ := box3 x_o
        refine Closed.mk ?_
        go_simp
        exact hK.out _ _ ⟨hA, hN, x_o⟩ trivial rfl
      · refine GoalL.mk (by rfl) ⟨fun _ _ _ _ _ h => h, fun _ _ _ _ _ _ h => h⟩ ?_
        intro f u wq hf hC hD K hK
        have hA := hC.1; have hN := hC.2.1; have x_o := hC.2.2; clear hC
        have d2 := hD.1; have d3 := hD.2.1; clear hD
        have e2 : u 2 = .pointer (some ⟨w.heap.size, 1, none⟩) := d2; clear d2
        have e3 : u 3 = .int .i64 on := d3; clear d3
        simp only [putL, Act.put, List.setIfInBounds_toArray, List.set_cons_zero, List.set_cons_succ, e2, e3] at hK ⊢
        refine Closed.mk ?_
        go_simp
        refine (l13Dec_calls on _ (by omega) (by omega)).mono ?_
        rw [HSO.out]
        rintro e wr ⟨rfl, hb⟩
        exact hK.out _ _ ⟨Below.trans hA (hb.mono hA.size), Nat.le_trans hN hb.size, (below_at hb x_o)⟩ trivial rfl
      · refine GoalL.mk (by rfl) ⟨fun _ _ _ _ _ h => h, fun _ _ _ _ _ _ h => h⟩ ?_
        intro f u wq hf hC hD K hK
        have hA := hC.1; have hN := hC.2.1; have x_o := hC.2.2; clear hC
        have d0 := hD.1; have d1 := hD.2.1; have d2 := hD.2.2.1; have d3 := hD.2.2.2.1; have d4 := hD.2.2.2.2.1; clear hD
        have e0 : u 0 = .string s := d0; clear d0
        have e1 : u 1 = .string (s ++ ⟨#[32]⟩) := d1; clear d1
        have e2 : u 2 = .pointer (some ⟨w.heap.size, 1, none⟩) := d2; clear d2
        have e3 : u 3 = .int .i64 on := d3; clear d3
        have e4 : u 4 = .string so := d4; clear d4
        simp only [putL, Act.put, List.setIfInBounds_toArray, List.set_cons_zero, List.set_cons_succ, e0, e1, e2, e3, e4] at hK ⊢
        refine Closed.mk ?_
        go_simp
        exact hK.out _ _ ⟨hA, hN, x_o⟩ trivial rfl
      · refine GoalL.mk (by rfl) ⟨fun _ _ _ _ _ h => h, fun _ _ _ _ _ _ h => h⟩ ?_
        intro f u wq hf hC hD K hK
        have hA := hC.1; have hN := hC.2.1; have x_o := hC.2.2; clear hC
        have d0 := hD.1; have d1 := hD.2.1; have d2 := hD.2.2.1; have d3 := hD.2.2.2.1; have d4 := hD.2.2.2.2.1; have d5 := hD.2.2.2.2.2.1; clear hD
        have e0 : u 0 = .string s := d0; clear d0
        have e1 : u 1 = .string (s ++ ⟨#[32]⟩) := d1; clear d1
        have e2 : u 2 = .pointer (some ⟨w.heap.size, 1, none⟩) := d2; clear d2
        have e3 : u 3 = .int .i64 on := d3; clear d3
        have e4 : u 4 = .string so := d4; clear d4
        have e5 : u 5 = .string (s ++ ⟨#[32]⟩ ++ so) := d5; clear d5
        simp only [putL, Act.put, List.setIfInBounds_toArray, List.set_cons_zero, List.set_cons_succ, e0, e1, e2, e3, e4, e5] at hK ⊢
        refine Closed.mk ?_
        go_simp
        exact hK.out _ _ ⟨hA, hN, x_o⟩ trivial rfl
      · refine GoalL.mk (by rfl) ⟨fun _ _ _ _ _ h => h, fun _ _ _ _ _ _ h => h⟩ ?_
        intro f u wq hf hC hD K hK
        have hA := hC.1; have hN := hC.2.1; have x_o := hC.2.2; clear hC
        clear hD
        simp only [putL, Act.put, List.setIfInBounds_toArray, List.set_cons_zero, List.set_cons_succ] at hK ⊢
        refine Closed.mk ?_
        go_simp
        exact hK.out _ _ ⟨hA, hN, x_o⟩ trivial rfl
      · refine GoalL.mk (by rfl) ⟨fun _ _ _ _ _ h => h, fun _ _ _ _ _ _ h => h⟩ ?_
        intro f u wq hf hC hD K hK
        have hA := hC.1; have hN := hC.2.1; have x_o := hC.2.2; clear hC
        have d7 := hD.1; clear hD
        have e7 : u 7 = .pointer (some ⟨w.heap.size, 2, none⟩) := d7; clear d7
        simp only [putL, Act.put, List.setIfInBounds_toArray, List.set_cons_zero, List.set_cons_succ, e7] at hK ⊢
        obtain ⟨ko_0, ko_1, ko_2, fo_0, fo_1, fo_2⟩ := box3 x_o
        refine Closed.mk ?_
        go_simp
        exact hK.out _ _ ⟨hA, hN, x_o⟩ trivial rfl
      · refine GoalL.mk (by rfl) ⟨fun _ _ _ _ _ h => h, fun _ _ _ _ _ _ h => h⟩ ?_
        intro f u wq hf hC hD K hK
        have hA := hC.1; have hN := hC.2.1; have x_o := hC.2.2; clear hC
        have d7 := hD.1; have d8 := hD.2.1; clear hD
        have e7 : u 7 = .pointer (some ⟨w.heap.size, 2, none⟩) := d7; clear d7
        have e8 : u 8 = .int .i64 ar := d8; clear d8
        simp only [putL, Act.put, List.setIfInBounds_toArray, List.set_cons_zero, List.set_cons_succ, e7, e8] at hK ⊢
        refine Closed.mk ?_
        go_simp
        refine (l13Dec_calls ar _ (by omega) (by omega)).mono ?_
        rw [HSA.out]
        rintro e wr ⟨rfl, hb⟩
        exact hK.out _ _ ⟨Below.trans hA (hb.mono hA.size), Nat.le_trans hN hb.size, (below_at hb x_o)⟩ trivial rfl
      · refine GoalL.mk (by rfl) ⟨fun _ _ _ _ _ h => h, fun _ _ _ _ _ _ h => h⟩ ?_
        intro f u wq hf hC hD K hK
        have hA := hC.1; have hN := hC.2.1; have x_o := hC.2.2; clear hC
        have d0 := hD.1; have d1 := hD.2.1; have d2 := hD.2.2.1; have d3 := hD.2.2.2.1; have d4 := hD.2.2.2.2.1; have d5 := hD.2.2.2.2.2.1; have d6 := hD.2.2.2.2.2.2.1; have d7 := hD.2.2.2.2.2.2.2.1; have d8 := hD.2.2.2.2.2.2.2.2.1; have d9 := hD.2.2.2.2.2.2.2.2.2.1; clear hD
        have e0 : u 0 = .string s := d0; clear d0
        have e1 : u 1 = .string (s ++ ⟨#[32]⟩) := d1; clear d1
        have e2 : u 2 = .pointer (some ⟨w.heap.size, 1, none⟩) := d2; clear d2
        have e3 : u 3 = .int .i64 on := d3; clear d3
        have e4 : u 4 = .string so := d4; clear d4
        have e5 : u 5 = .string (s ++ ⟨#[32]⟩ ++ so) := d5; clear d5
        have e6 : u 6 = .string (s ++ ⟨#[32]⟩ ++ so ++ ⟨#[32]⟩) := d6; clear d6
        have e7 : u 7 = .pointer (some ⟨w.heap.size, 2, none⟩) := d7; clear d7
        have e8 : u 8 = .int .i64 ar := d8; clear d8
        have e9 : u 9 = .string sa := d9; clear d9
        simp only [putL, Act.put, List.setIfInBounds_toArray, List.set_cons_zero, List.set_cons_succ, e0, e1, e2, e3, e4, e5, e6, e7, e8, e9] at hK ⊢
        refine Closed.mk ?_
        go_simp
        exact hK.out _ _ ⟨hA, hN, x_o⟩ trivial rfl
      · refine GoalL.mk (by rfl) ⟨fun _ _ _ _ _ h => h, fun _ _ _ _ _ _ h => h⟩ ?_
        intro f u wq hf hC hD K hK
        have hA := hC.1; have hN := hC.2.1; have x_o := hC.2.2; clear hC
        have d0 := hD.1; have d1 := hD.2.1; have d2 := hD.2.2.1; have d3 := hD.2.2.2.1; have d4 := hD.2.2.2.2.1; have d5 := hD.2.2.2.2.2.1; have d6 := hD.2.2.2.2.2.2.1; have d7 := hD.2.2.2.2.2.2.2.1; have d8 := hD.2.2.2.2.2.2.2.2.1; have d9 := hD.2.2.2.2.2.2.2.2.2.1; have d10 := hD.2.2.2.2.2.2.2.2.2.2.1; clear hD
        have e0 : u 0 = .string s := d0; clear d0
        have e1 : u 1 = .string (s ++ ⟨#[32]⟩) := d1; clear d1
        have e2 : u 2 = .pointer (some ⟨w.heap.size, 1, none⟩) := d2; clear d2
        have e3 : u 3 = .int .i64 on := d3; clear d3
        have e4 : u 4 = .string so := d4; clear d4
        have e5 : u 5 = .string (s ++ ⟨#[32]⟩ ++ so) := d5; clear d5
        have e6 : u 6 = .string (s ++ ⟨#[32]⟩ ++ so ++ ⟨#[32]⟩) := d6; clear d6
        have e7 : u 7 = .pointer (some ⟨w.heap.size, 2, none⟩) := d7; clear d7
        have e8 : u 8 = .int .i64 ar := d8; clear d8
        have e9 : u 9 = .string sa := d9; clear d9
        have e10 : u 10 = .string (s ++ ⟨#[32]⟩ ++ so ++ ⟨#[32]⟩ ++ sa) := d10; clear d10
        simp only [putL, Act.put, List.setIfInBounds_toArray, List.set_cons_zero, List.set_cons_succ, e0, e1, e2, e3, e4, e5, e6, e7, e8, e9, e10] at hK ⊢
        refine Closed.mk ?_
        go_simp
        exact hK.out _ _ ⟨hA, hN, x_o⟩ trivial rfl
      intro u w2 hC hD
      have hA := hC.1; have hN := hC.2.1; have x_o := hC.2.2; clear hC
      have d0 := hD.1; have d1 := hD.2.1; have d2 := hD.2.2.1; have d3 := hD.2.2.2.1; have d4 := hD.2.2.2.2.1; have d5 := hD.2.2.2.2.2.1; have d6 := hD.2.2.2.2.2.2.1; have d7 := hD.2.2.2.2.2.2.2.1; have d8 := hD.2.2.2.2.2.2.2.2.1; have d9 := hD.2.2.2.2.2.2.2.2.2.1; have d10 := hD.2.2.2.2.2.2.2.2.2.2.1; have d11 := hD.2.2.2.2.2.2.2.2.2.2.2.1; clear hD
      have e0 : u 0 = .string s := d0; clear d0
      have e1 : u 1 = .string (s ++ ⟨#[32]⟩) := d1; clear d1
      have e2 : u 2 = .pointer (some ⟨w.heap.size, 1, none⟩) := d2; clear d2
      have e3 : u 3 = .int .i64 on := d3; clear d3
      have e4 : u 4 = .string so := d4; clear d4
      have e5 : u 5 = .string (s ++ ⟨#[32]⟩ ++ so) := d5; clear d5
      have e6 : u 6 = .string (s ++ ⟨#[32]⟩ ++ so ++ ⟨#[32]⟩) := d6; clear d6
      have e7 : u 7 = .pointer (some ⟨w.heap.size, 2, none⟩) := d7; clear d7
      have e8 : u 8 = .int .i64 ar := d8; clear d8
      have e9 : u 9 = .string sa := d9; clear d9
      have e10 : u 10 = .string (s ++ ⟨#[32]⟩ ++ so ++ ⟨#[32]⟩ ++ sa) := d10; clear d10
      have e11 : u 11 = .string (s ++ ⟨#[32]⟩ ++ so ++ ⟨#[32]⟩ ++ sa) := d11; clear d11
      have B2 := Lib.hid hA; have N2 := hN; have S2 := hA.size
      have Xo_2 := Lib.hid x_o; clear x_o
      obtain ⟨co2_0, co2_1, co2_2, fo2_0, fo2_1, fo2_2⟩ := box3 Xo_2.out; have lo2 := heap_lt Xo_2.out
      clear hA hN
      simp only [putL, Act.put, List.setIfInBounds_toArray, List.set_cons_zero, List.set_cons_succ, e0, e1, e2, e3, e4, e5, e6, e7, e8, e9, e10, e11]
      refine Closed.mk (wpAnyH_done (by kernel_rfl) ?_ _)
      go_wp2
      go_ret
      exact ⟨by rw [HT.out, HS.out, HSO.out, HSA.out]; rfl, B2.out⟩
  · have HT := Lib.hid (opText_none (x := (k, on, ar)) hk)
    have HW := Lib.hid (wordB_none hk); clear hk
    go_wp2_with (fail)
    refine (l6Word_calls k _).mono ?_
    rw [HW.out]
    rintro e w1 ⟨rfl, hb⟩
    have B1 := Lib.hid (Below.trans (Below.alloc (Below.refl _ _) (by first | omega | (simp only [szA, szS, szD, World.heap_drewN] at * <;> omega)) _) (hb.mono (by first | omega | (simp only [szA, szS, szD, World.heap_drewN] at * <;> omega))) : Below w.heap.size w w1)
    have Z1 := hb.size
    have N1 : w.heap.size + 1 ≤ w1.heap.size := (by first | with_reducible exact Z1 | (simp only [szA, szS, szD] at Z1; omega))
    clear Z1
    have Xo_1 : Hid (w1.heap[w.heap.size]? = some (.cells #[.int .i64 k, .int .i64 on, .int .i64 ar] 23 (0, 0))) := below_at hb (heap_at' (n := w.heap.size) (by first | omega | (simp only [szA, szS, szD, World.heap_drewN] at * <;> omega)))
    clear hb
    obtain ⟨co1_0, co1_1, co1_2, fo1_0, fo1_1, fo1_2⟩ := box3 Xo_1.out; have lo1 := heap_lt Xo_1.out
    have S1 : w.heap.size ≤ w1.heap.size := (by omega)
    go_wp2
    go_ret
    exact ⟨by rw [HT.out]; rfl, B1.out⟩
end Go.Proofs.YthbnbofoefdneaaDoor
