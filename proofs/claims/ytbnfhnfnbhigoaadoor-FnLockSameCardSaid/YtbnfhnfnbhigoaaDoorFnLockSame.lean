/- FnLockSame: the law's walk (made by gen_semlaws.py). -/
import Derived.Test.YtbnfhnfnbhigoaaDoorDrawLockSame
import Derived.Test.YtbnfhnfnbhigoaaDoorLockSame
import Derived.Test.YtbnfhnfnbhigoaaDoorLockSameS
import Derived.Test.YtbnfhnfnbhigoaaDoorFmtLockI
import Derived.Test.YtbnfhnfnbhigoaaDoorBytes
namespace Go.Proofs.YtbnfhnfnbhigoaaDoor
open Go.RowKit
set_option linter.unusedSimpArgs false
set_option linter.unusedVariables false
set_option maxHeartbeats 8000000 in
theorem FnLockSame_calls (v : Value) (bs : List Int) (w : World) (h : Row 1 encB w v bs) (hbs : ∀ x ∈ bs, 0 ≤ x ∧ x ≤ 255) :
    Calls Tryd.prog 4 #[v] w fun e w' => e = .returned (.bool true) ∧ Below w.heap.size w w' := by
  have HB := Lib.hid hbs; clear hbs
  have H0 := Lib.hid h
  obtain ⟨a, c, rfl, l1, l2, l3⟩ := h
  clear l3
  by_cases hl : bs.length ≤ 1048576
  · go_enter Tryd.func4, Tryd.ntmps4
    go_wp2_with (fail)
    refine (DrawLockSame_calls _ bs _ (Row.below H0.out (Below.refl _ _)) HB.out).mono ?_
    rintro e w1 ⟨v1, c1, v2, c2, rfl, ho_a, ho_b, hf1, hf2, hb⟩
    have B1 := Lib.hid (Below.trans (Below.refl _ _) (hb.mono (by first | omega | (simp only [szA, szS, szD, World.heap_drewN] at * <;> omega))) : Below w.heap.size w w1)
    have Z1 := hb.size
    have N1 : w.heap.size ≤ w1.heap.size := (by first | with_reducible exact Z1 | (simp only [szA, szS, szD] at Z1; omega))
    clear Z1
    have Oa_1 := Lib.hid (ho_a.mono (lo' := w.heap.size) (by first | omega | (simp only [szA, szS, szD, World.heap_drewN] at * <;> omega)) (Nat.le_refl _)); obtain ⟨aa0, pa0, aa2, pa2, rfl, hx_a⟩ := ho_a; clear hx_a
    have Ob_1 := Lib.hid (ho_b.mono (lo' := w.heap.size) (by first | omega | (simp only [szA, szS, szD, World.heap_drewN] at * <;> omega)) (Nat.le_refl _)); obtain ⟨ab0, pb0, ab2, pb2, rfl, hx_b⟩ := ho_b; clear hx_b
    clear hb
    have S1 : w.heap.size ≤ w1.heap.size := (by omega)
    have HN1 := Lib.hid (show c1.readers.length + c1.q.length ≤ 1048576 by unfold LockFew at hf1; omega); have HN2 := Lib.hid (show c2.readers.length + c2.q.length ≤ 1048576 by unfold LockFew at hf2; omega); clear hf1 hf2
    by_cases hd : c1 = c2
    · have HD := Lib.hid hd; have HS := Lib.hid hd.symm; clear hd
      go_wp2_with (fail)
      refine (LockSameO _ _ c1 c2 _ (((Oa_1.out.alloc _).alloc _).row) (((Ob_1.out.alloc _).alloc _).row)).mono ?_
      rw [decide_eq_true HD.out]
      rintro e w2 ⟨rfl, hb⟩
      have B2 := Lib.hid (Below.trans (Below.alloc (Below.alloc B1.out (by first | omega | (simp only [szA, szS, szD, World.heap_drewN] at * <;> omega)) _) (by first | omega | (simp only [szA, szS, szD, World.heap_drewN] at * <;> omega)) _) (hb.mono (by first | omega | (simp only [szA, szS, szD, World.heap_drewN] at * <;> omega))) : Below w.heap.size w w2)
      have Z2 := hb.size
      have N2 : w1.heap.size + 2 ≤ w2.heap.size := (by first | with_reducible exact Z2 | (simp only [szA, szS, szD] at Z2; omega))
      clear Z2
      have Xa_2 : Hid (w2.heap[w1.heap.size]? = some (.cells #[.slice aa0 c1.readers.length pa0, .int .i64 c1.writer, .slice aa2 c1.q.length pa2] 30 (0, 0))) := below_at hb (heap_up (heap_at' (n := w1.heap.size) (by first | omega | (simp only [szA, szS, szD, World.heap_drewN] at * <;> omega))))
      have Xb_2 : Hid (w2.heap[w1.heap.size + 1]? = some (.cells #[.slice ab0 c2.readers.length pb0, .int .i64 c2.writer, .slice ab2 c2.q.length pb2] 30 (0, 0))) := below_at hb (heap_at' (n := w1.heap.size + 1) (by first | omega | (simp only [szA, szS, szD, World.heap_drewN] at * <;> omega)))
      have Oa_2 := Lib.hid (((Oa_1.out.alloc _).alloc _).kept hb)
      have Ob_2 := Lib.hid (((Ob_1.out.alloc _).alloc _).kept hb)
      clear hb
      obtain ⟨ca2_0, ca2_1, ca2_2, fa2_0, fa2_1, fa2_2⟩ := box3 Xa_2.out; have la2 := heap_lt Xa_2.out
      obtain ⟨cb2_0, cb2_1, cb2_2, fb2_0, fb2_1, fb2_2⟩ := box3 Xb_2.out; have lb2 := heap_lt Xb_2.out
      have S2 : w.heap.size ≤ w2.heap.size := (by omega)
      obtain ⟨s1, hs1⟩ : ∃ s, fmtL c1 = s := ⟨_, rfl⟩
      have HS1 := Lib.hid hs1; clear hs1
      go_wp2_with (fail)
      obtain ⟨hi_a, HI_a⟩ : ∃ hi, LockOwn w.heap.size hi w2 (.agg #[.slice aa0 c1.readers.length pa0, .int .i64 c1.writer, .slice aa2 c1.q.length pa2]) c1 := ⟨_, Oa_2.out⟩
      obtain ⟨hi_b, HI_b⟩ : ∃ hi, LockOwn w.heap.size hi w2 (.agg #[.slice ab0 c2.readers.length pb0, .int .i64 c2.writer, .slice ab2 c2.q.length pb2]) c2 := ⟨_, Ob_2.out⟩
      have hN0 : w2.heap.size ≤ w2.heap.size := (by first | omega | (simp only [szA, szS, szD, World.heap_drewN] at * <;> omega))
      refine wp_region_L [⟨0, false, [], fun _ v _ => v = .bool true⟩, ⟨1, false, [], fun _ v _ => v = .agg #[.slice aa0 c1.readers.length pa0, .int .i64 c1.writer, .slice aa2 c1.q.length pa2]⟩, ⟨2, false, [], fun _ v _ => v = .agg #[.slice ab0 c2.readers.length pb0, .int .i64 c2.writer, .slice ab2 c2.q.length pb2]⟩, ⟨3, false, [1, 2], fun _ v _ => v = .bool true⟩, ⟨4, false, [0, 1, 2, 3], fun _ v _ => v = .bool true⟩, ⟨5, false, [0, 1, 2, 3, 4], fun _ v _ => v = .bool true⟩, ⟨6, false, [0, 1, 2, 3, 4, 5], fun _ v _ => v = .bool true⟩, ⟨7, false, [0, 1, 2, 3, 4, 5], fun _ v _ => v = .agg #[.slice ab0 c2.readers.length pb0, .int .i64 c2.writer, .slice ab2 c2.q.length pb2]⟩, ⟨8, false, [0, 1, 2, 3, 4, 5], fun _ v _ => v = .agg #[.slice aa0 c1.readers.length pa0, .int .i64 c1.writer, .slice aa2 c1.q.length pa2]⟩, ⟨9, false, [0, 1, 2, 3, 4, 5, 7, 8], fun _ v _ => v = .bool true⟩, ⟨10, false, [0, 1, 2, 3, 4, 5, 6, 7, 8, 9], fun _ v _ => v = .bool true⟩, ⟨11, false, [0, 1, 2, 3, 4, 5, 6, 7, 8, 9, 10], fun _ v _ => v = .bool true⟩, ⟨12, false, [0, 1, 2, 3, 4, 5, 6, 7, 8, 9, 10, 11], fun _ v _ => v = .bool true⟩, ⟨13, false, [0, 1, 2, 3, 4, 5, 6, 7, 8, 9, 10, 11, 12], fun _ v _ => v = .agg #[.slice aa0 c1.readers.length pa0, .int .i64 c1.writer, .slice aa2 c1.q.length pa2]⟩, ⟨14, false, [0, 1, 2, 3, 4, 5, 6, 7, 8, 9, 10, 11, 12], fun _ v _ => v = .agg #[.slice aa0 c1.readers.length pa0, .int .i64 c1.writer, .slice aa2 c1.q.length pa2]⟩, ⟨15, false, [0, 1, 2, 3, 4, 5, 6, 7, 8, 9, 10, 11, 12, 13, 14], fun _ v _ => v = .bool true⟩, ⟨16, false, [0, 1, 2, 3, 4, 5, 6, 7, 8, 9, 10, 11, 12, 13, 14, 15], fun _ v _ => v = .bool true⟩, ⟨17, false, [0, 1, 2, 3, 4, 5, 6, 7, 8, 9, 10, 11, 12, 13, 14, 15, 16], fun _ v _ => v = .bool true⟩, ⟨18, false, [0, 1, 2, 3, 4, 5, 6, 7, 8, 9, 10, 11, 12, 13, 14, 15, 16, 17], fun _ v _ => v = .bool true⟩, ⟨19, false, [0, 1, 2, 3, 4, 5, 6, 7, 8, 9, 10, 11, 12, 13, 14, 15, 16, 17, 18], fun _ v _ => v = .bool false⟩, ⟨20, false, [0, 1, 2, 3, 4, 5, 6, 7, 8, 9, 10, 11, 12, 13, 14, 15, 16, 17, 18, 19], fun _ v _ => v = .bool false⟩, ⟨21, false, [0, 1, 2, 3, 4, 5, 6, 7, 8, 9, 10, 11, 12, 13, 14, 15, 16, 17, 18, 19, 20], fun _ v _ => v = .agg #[.slice aa0 c1.readers.length pa0, .int .i64 c1.writer, .slice aa2 c1.q.length pa2]⟩, ⟨22, false, [0, 1, 2, 3, 4, 5, 6, 7, 8, 9, 10, 11, 12, 13, 14, 15, 16, 17, 18, 19, 20, 21], fun _ v _ => v = .string s1⟩, ⟨23, false, [0, 1, 2, 3, 4, 5, 6, 7, 8, 9, 10, 11, 12, 13, 14, 15, 16, 17, 18, 19, 20], fun _ v _ => v = .agg #[.slice ab0 c2.readers.length pb0, .int .i64 c2.writer, .slice ab2 c2.q.length pb2]⟩, ⟨24, false, [0, 1, 2, 3, 4, 5, 6, 7, 8, 9, 10, 11, 12, 13, 14, 15, 16, 17, 18, 19, 20, 23], fun _ v _ => v = .string s1⟩, ⟨25, false, [0, 1, 2, 3, 4, 5, 6, 7, 8, 9, 10, 11, 12, 13, 14, 15, 16, 17, 18, 19, 20, 21, 22, 23, 24], fun _ v _ => v = .bool true⟩, ⟨26, false, [0, 1, 2, 3, 4, 5, 6, 7, 8, 9, 10, 11, 12, 13, 14, 15, 16, 17, 18, 19, 20, 21, 22, 23, 24, 25], fun _ v _ => v = .bool true⟩, ⟨27, false, [0, 1, 2, 3, 4, 5, 6, 7, 8, 9, 10, 11, 12, 13, 14, 15, 16, 17, 18, 19, 20, 21, 22, 23, 24, 25, 26], fun _ v _ => v = .bool true⟩, ⟨28, false, [0, 1, 2, 3, 4, 5, 6, 7, 8, 9, 10, 11, 12, 13, 14, 15, 16, 17, 18, 19, 20, 21, 22, 23, 24, 25, 26, 27], fun _ v _ => v = .bool true⟩] [(0, some 17), (1, some 18), (2, some 19), (3, some 20), (4, some 21), (5, some 22), (6, some 23), (7, some 24), (8, some 25), (9, some 26), (10, some 27), (11, some 28), (12, some 29), (13, some 30), (14, some 31), (15, some 32), (16, some 33), (17, some 34), (18, some 35), (19, some 36), (20, some 37), (21, some 38), (22, some 39), (23, some 40), (24, some 41), (25, some 42), (26, some 43), (27, some 44), (28, some 2)] (fun _ w' => Below w.heap.size w w' ∧ w2.heap.size ≤ w'.heap.size ∧ w'.heap[w1.heap.size]? = some (.cells #[.slice aa0 c1.readers.length pa0, .int .i64 c1.writer, .slice aa2 c1.q.length pa2] 30 (0, 0)) ∧ w'.heap[w1.heap.size + 1]? = some (.cells #[.slice ab0 c2.readers.length pb0, .int .i64 c2.writer, .slice ab2 c2.q.length pb2] 30 (0, 0)) ∧ LockOwn w.heap.size hi_a w' (.agg #[.slice aa0 c1.readers.length pa0, .int .i64 c1.writer, .slice aa2 c1.q.length pa2]) c1 ∧ LockOwn w.heap.size hi_b w' (.agg #[.slice ab0 c2.readers.length pb0, .int .i64 c2.writer, .slice ab2 c2.q.length pb2]) c2) (fun _ _ _ => True) (by kernel_rfl) (by rfl) (by kernel_rfl) (by kernel_rfl) ⟨(B2.out).drew, hN0, (heap_drew Xa_2.out), (heap_drew Xb_2.out), HI_a, HI_b⟩ (GoalsL.cons ?_ (GoalsL.cons ?_ (GoalsL.cons ?_ (GoalsL.cons ?_ (GoalsL.cons ?_ (GoalsL.cons ?_ (GoalsL.cons ?_ (GoalsL.cons ?_ (GoalsL.cons ?_ (GoalsL.cons ?_ (GoalsL.cons ?_ (GoalsL.cons ?_ (GoalsL.cons ?_ (GoalsL.cons ?_ (GoalsL.cons ?_ (GoalsL.cons ?_ (GoalsL.cons ?_ (GoalsL.cons ?_ (GoalsL.cons ?_ (GoalsL.cons ?_ (GoalsL.cons ?_ (GoalsL.cons ?_ (GoalsL.cons ?_ (GoalsL.cons ?_ (GoalsL.cons ?_ (GoalsL.cons ?_ (GoalsL.cons ?_ (GoalsL.cons ?_ (GoalsL.cons ?_ (GoalsL.nil)))))))))))))))))))))))))))))) ?_
      · refine GoalL.mk (by rfl) ⟨fun _ _ _ _ _ h => h, fun _ _ _ _ _ _ h => h⟩ ?_
        intro f u wq hf hC hD K hK
        have hA := hC.1; have hN := hC.2.1; have x_a := hC.2.2.1; have x_b := hC.2.2.2.1; have o_a := hC.2.2.2.2.1; have o_b := hC.2.2.2.2.2; clear hC
        clear hD
        simp only [putL, Act.put, List.setIfInBounds_toArray, List.set_cons_zero, List.set_cons_succ] at hK ⊢
        refine Closed.mk ?_
        go_simp
        exact hK.out _ _ ⟨hA, hN, x_a, x_b, o_a, o_b⟩ trivial rfl
      · refine GoalL.mk (by rfl) ⟨fun _ _ _ _ _ h => h, fun _ _ _ _ _ _ h => h⟩ ?_
        intro f u wq hf hC hD K hK
        have hA := hC.1; have hN := hC.2.1; have x_a := hC.2.2.1; have x_b := hC.2.2.2.1; have o_a := hC.2.2.2.2.1; have o_b := hC.2.2.2.2.2; clear hC
        clear hD
        simp only [putL, Act.put, List.setIfInBounds_toArray, List.set_cons_zero, List.set_cons_succ] at hK ⊢
        obtain ⟨ka_0, ka_1, ka_2, fa_0, fa_1, fa_2⟩ := box3 x_a
        refine Closed.mk ?_
        go_simp
        exact hK.out _ _ ⟨hA, hN, x_a, x_b, o_a, o_b⟩ trivial rfl
      · refine GoalL.mk (by rfl) ⟨fun _ _ _ _ _ h => h, fun _ _ _ _ _ _ h => h⟩ ?_
        intro f u wq hf hC hD K hK
        have hA := hC.1; have hN := hC.2.1; have x_a := hC.2.2.1; have x_b := hC.2.2.2.1; have o_a := hC.2.2.2.2.1; have o_b := hC.2.2.2.2.2; clear hC
        clear hD
        simp only [putL, Act.put, List.setIfInBounds_toArray, List.set_cons_zero, List.set_cons_succ] at hK ⊢
        obtain ⟨kb_0, kb_1, kb_2, fb_0, fb_1, fb_2⟩ := box3 x_b
        refine Closed.mk ?_
        go_simp
        exact hK.out _ _ ⟨hA, hN, x_a, x_b, o_a, o_b⟩ trivial rfl
      · refine GoalL.mk (by rfl) ⟨fun _ _ _ _ _ h => h, fun _ _ _ _ _ _ h => h⟩ ?_
        intro f u wq hf hC hD K hK
        have hA := hC.1; have hN := hC.2.1; have x_a := hC.2.2.1; have x_b := hC.2.2.2.1; have o_a := hC.2.2.2.2.1; have o_b := hC.2.2.2.2.2; clear hC
        have d1 := hD.1; have d2 := hD.2.1; clear hD
        have e1 : u 1 = .agg #[.slice aa0 c1.readers.length pa0, .int .i64 c1.writer, .slice aa2 c1.q.length pa2] := d1; clear d1
        have e2 : u 2 = .agg #[.slice ab0 c2.readers.length pb0, .int .i64 c2.writer, .slice ab2 c2.q.length pb2] := d2; clear d2
        simp only [putL, Act.put, List.setIfInBounds_toArray, List.set_cons_zero, List.set_cons_succ, e1, e2] at hK ⊢
        refine Closed.mk ?_
        go_simp
        refine (sLockSameO _ _ c1 c2 _ (o_a.row) (o_b.row)).mono ?_
        rw [decide_eq_true HD.out]
        rintro e wr ⟨rfl, hb⟩
        exact hK.out _ _ ⟨Below.trans hA (hb.mono hA.size), Nat.le_trans hN hb.size, (below_at hb x_a), (below_at hb x_b), (o_a.kept hb), (o_b.kept hb)⟩ trivial rfl
      · refine GoalL.mk (by rfl) ⟨fun _ _ _ _ _ h => h, fun _ _ _ _ _ _ h => h⟩ ?_
        intro f u wq hf hC hD K hK
        have hA := hC.1; have hN := hC.2.1; have x_a := hC.2.2.1; have x_b := hC.2.2.2.1; have o_a := hC.2.2.2.2.1; have o_b := hC.2.2.2.2.2; clear hC
        have d0 := hD.1; have d1 := hD.2.1; have d2 := hD.2.2.1; have d3 := hD.2.2.2.1; clear hD
        have e0 : u 0 = .bool true := d0; clear d0
        have e1 : u 1 = .agg #[.slice aa0 c1.readers.length pa0, .int .i64 c1.writer, .slice aa2 c1.q.length pa2] := d1; clear d1
        have e2 : u 2 = .agg #[.slice ab0 c2.readers.length pb0, .int .i64 c2.writer, .slice ab2 c2.q.length pb2] := d2; clear d2
        have e3 : u 3 = .bool true := d3; clear d3
        simp only [putL, Act.put, List.setIfInBounds_toArray, List.set_cons_zero, List.set_cons_succ, e0, e1, e2, e3] at hK ⊢
        refine Closed.mk ?_
        go_simp
        exact hK.out _ _ ⟨hA, hN, x_a, x_b, o_a, o_b⟩ trivial rfl
      · refine GoalL.mk (by rfl) ⟨fun _ _ _ _ _ h => h, fun _ _ _ _ _ _ h => h⟩ ?_
        intro f u wq hf hC hD K hK
        have hA := hC.1; have hN := hC.2.1; have x_a := hC.2.2.1; have x_b := hC.2.2.2.1; have o_a := hC.2.2.2.2.1; have o_b := hC.2.2.2.2.2; clear hC
        have d0 := hD.1; have d1 := hD.2.1; have d2 := hD.2.2.1; have d3 := hD.2.2.2.1; have d4 := hD.2.2.2.2.1; clear hD
        have e0 : u 0 = .bool true := d0; clear d0
        have e1 : u 1 = .agg #[.slice aa0 c1.readers.length pa0, .int .i64 c1.writer, .slice aa2 c1.q.length pa2] := d1; clear d1
        have e2 : u 2 = .agg #[.slice ab0 c2.readers.length pb0, .int .i64 c2.writer, .slice ab2 c2.q.length pb2] := d2; clear d2
        have e3 : u 3 = .bool true := d3; clear d3
        have e4 : u 4 = .bool true := d4; clear d4
        simp only [putL, Act.put, List.setIfInBounds_toArray, List.set_cons_zero, List.set_cons_succ, e0, e1, e2, e3, e4] at hK ⊢
        refine Closed.mk ?_
        go_simp
        exact hK.out _ _ ⟨hA, hN, x_a, x_b, o_a, o_b⟩ trivial rfl
      · refine GoalL.mk (by rfl) ⟨fun _ _ _ _ _ h => h, fun _ _ _ _ _ _ h => h⟩ ?_
        intro f u wq hf hC hD K hK
        have hA := hC.1; have hN := hC.2.1; have x_a := hC.2.2.1; have x_b := hC.2.2.2.1; have o_a := hC.2.2.2.2.1; have o_b := hC.2.2.2.2.2; clear hC
        have d0 := hD.1; have d1 := hD.2.1; have d2 := hD.2.2.1; have d3 := hD.2.2.2.1; have d4 := hD.2.2.2.2.1; have d5 := hD.2.2.2.2.2.1; clear hD
        have e0 : u 0 = .bool true := d0; clear d0
        have e1 : u 1 = .agg #[.slice aa0 c1.readers.length pa0, .int .i64 c1.writer, .slice aa2 c1.q.length pa2] := d1; clear d1
        have e2 : u 2 = .agg #[.slice ab0 c2.readers.length pb0, .int .i64 c2.writer, .slice ab2 c2.q.length pb2] := d2; clear d2
        have e3 : u 3 = .bool true := d3; clear d3
        have e4 : u 4 = .bool true := d4; clear d4
        have e5 : u 5 = .bool true := d5; clear d5
        simp only [putL, Act.put, List.setIfInBounds_toArray, List.set_cons_zero, List.set_cons_succ, e0, e1, e2, e3, e4, e5] at hK ⊢
        refine Closed.mk ?_
        go_simp
        exact hK.out _ _ ⟨hA, hN, x_a, x_b, o_a, o_b⟩ trivial rfl
      · refine GoalL.mk (by rfl) ⟨fun _ _ _ _ _ h => h, fun _ _ _ _ _ _ h => h⟩ ?_
        intro f u wq hf hC hD K hK
        have hA := hC.1; have hN := hC.2.1; have x_a := hC.2.2.1; have x_b := hC.2.2.2.1; have o_a := hC.2.2.2.2.1; have o_b := hC.2.2.2.2.2; clear hC
        have d0 := hD.1; have d1 := hD.2.1; have d2 := hD.2.2.1; have d3 := hD.2.2.2.1; have d4 := hD.2.2.2.2.1; have d5 := hD.2.2.2.2.2.1; clear hD
        have e0 : u 0 = .bool true := d0; clear d0
        have e1 : u 1 = .agg #[.slice aa0 c1.readers.length pa0, .int .i64 c1.writer, .slice aa2 c1.q.length pa2] := d1; clear d1
        have e2 : u 2 = .agg #[.slice ab0 c2.readers.length pb0, .int .i64 c2.writer, .slice ab2 c2.q.length pb2] := d2; clear d2
        have e3 : u 3 = .bool true := d3; clear d3
        have e4 : u 4 = .bool true := d4; clear d4
        have e5 : u 5 = .bool true := d5; clear d5
        simp only [putL, Act.put, List.setIfInBounds_toArray, List.set_cons_zero, List.set_cons_succ, e0, e1, e2, e3, e4, e5] at hK ⊢
        obtain ⟨kb_0, kb_1, kb_2, fb_0, fb_1, fb_2⟩ := box3 x_b
        refine Closed.mk ?_
        go_simp
        exact hK.out _ _ ⟨hA, hN, x_a, x_b, o_a, o_b⟩ trivial rfl
      · refine GoalL.mk (by rfl) ⟨fun _ _ _ _ _ h => h, fun _ _ _ _ _ _ h => h⟩ ?_
        intro f u wq hf hC hD K hK
        have hA := hC.1; have hN := hC.2.1; have x_a := hC.2.2.1; have x_b := hC.2.2.2.1; have o_a := hC.2.2.2.2.1; have o_b := hC.2.2.2.2.2; clear hC
        have d0 := hD.1; have d1 := hD.2.1; have d2 := hD.2.2.1; have d3 := hD.2.2.2.1; have d4 := hD.2.2.2.2.1; have d5 := hD.2.2.2.2.2.1; clear hD
        have e0 : u 0 = .bool true := d0; clear d0
        have e1 : u 1 = .agg #[.slice aa0 c1.readers.length pa0, .int .i64 c1.writer, .slice aa2 c1.q.length pa2] := d1; clear d1
        have e2 : u 2 = .agg #[.slice ab0 c2.readers.length pb0, .int .i64 c2.writer, .slice ab2 c2.q.length pb2] := d2; clear d2
        have e3 : u 3 = .bool true := d3; clear d3
        have e4 : u 4 = .bool true := d4; clear d4
        have e5 : u 5 = .bool true := d5; clear d5
        simp only [putL, Act.put, List.setIfInBounds_toArray, List.set_cons_zero, List.set_cons_succ, e0, e1, e2, e3, e4, e5] at hK ⊢
        obtain ⟨ka_0, ka_1, ka_2, fa_0, fa_1, fa_2⟩ := box3 x_a
        refine Closed.mk ?_
        go_simp
        exact hK.out _ _ ⟨hA, hN, x_a, x_b, o_a, o_b⟩ trivial rfl
      · refine GoalL.mk (by rfl) ⟨fun _ _ _ _ _ h => h, fun _ _ _ _ _ _ h => h⟩ ?_
        intro f u wq hf hC hD K hK
        have hA := hC.1; have hN := hC.2.1; have x_a := hC.2.2.1; have x_b := hC.2.2.2.1; have o_a := hC.2.2.2.2.1; have o_b := hC.2.2.2.2.2; clear hC
        have d0 := hD.1; have d1 := hD.2.1; have d2 := hD.2.2.1; have d3 := hD.2.2.2.1; have d4 := hD.2.2.2.2.1; have d5 := hD.2.2.2.2.2.1; have d7 := hD.2.2.2.2.2.2.1; have d8 := hD.2.2.2.2.2.2.2.1; clear hD
        have e0 : u 0 = .bool true := d0; clear d0
        have e1 : u 1 = .agg #[.slice aa0 c1.readers.length pa0, .int .i64 c1.writer, .slice aa2 c1.q.length pa2] := d1; clear d1
        have e2 : u 2 = .agg #[.slice ab0 c2.readers.length pb0, .int .i64 c2.writer, .slice ab2 c2.q.length pb2] := d2; clear d2
        have e3 : u 3 = .bool true := d3; clear d3
        have e4 : u 4 = .bool true := d4; clear d4
        have e5 : u 5 = .bool true := d5; clear d5
        have e7 : u 7 = .agg #[.slice ab0 c2.readers.length pb0, .int .i64 c2.writer, .slice ab2 c2.q.length pb2] := d7; clear d7
        have e8 : u 8 = .agg #[.slice aa0 c1.readers.length pa0, .int .i64 c1.writer, .slice aa2 c1.q.length pa2] := d8; clear d8
        simp only [putL, Act.put, List.setIfInBounds_toArray, List.set_cons_zero, List.set_cons_succ, e0, e1, e2, e3, e4, e5, e7, e8] at hK ⊢
        refine Closed.mk ?_
        go_simp
        refine (LockSameO _ _ c2 c1 _ (o_b.row) (o_a.row)).mono ?_
        rw [decide_eq_true HS.out]
        rintro e wr ⟨rfl, hb⟩
        exact hK.out _ _ ⟨Below.trans hA (hb.mono hA.size), Nat.le_trans hN hb.size, (below_at hb x_a), (below_at hb x_b), (o_a.kept hb), (o_b.kept hb)⟩ trivial rfl
      · refine GoalL.mk (by rfl) ⟨fun _ _ _ _ _ h => h, fun _ _ _ _ _ _ h => h⟩ ?_
        intro f u wq hf hC hD K hK
        have hA := hC.1; have hN := hC.2.1; have x_a := hC.2.2.1; have x_b := hC.2.2.2.1; have o_a := hC.2.2.2.2.1; have o_b := hC.2.2.2.2.2; clear hC
        have d0 := hD.1; have d1 := hD.2.1; have d2 := hD.2.2.1; have d3 := hD.2.2.2.1; have d4 := hD.2.2.2.2.1; have d5 := hD.2.2.2.2.2.1; have d6 := hD.2.2.2.2.2.2.1; have d7 := hD.2.2.2.2.2.2.2.1; have d8 := hD.2.2.2.2.2.2.2.2.1; have d9 := hD.2.2.2.2.2.2.2.2.2.1; clear hD
        have e0 : u 0 = .bool true := d0; clear d0
        have e1 : u 1 = .agg #[.slice aa0 c1.readers.length pa0, .int .i64 c1.writer, .slice aa2 c1.q.length pa2] := d1; clear d1
        have e2 : u 2 = .agg #[.slice ab0 c2.readers.length pb0, .int .i64 c2.writer, .slice ab2 c2.q.length pb2] := d2; clear d2
        have e3 : u 3 = .bool true := d3; clear d3
        have e4 : u 4 = .bool true := d4; clear d4
        have e5 : u 5 = .bool true := d5; clear d5
        have e6 : u 6 = .bool true := d6; clear d6
        have e7 : u 7 = .agg #[.slice ab0 c2.readers.length pb0, .int .i64 c2.writer, .slice ab2 c2.q.length pb2] := d7; clear d7
        have e8 : u 8 = .agg #[.slice aa0 c1.readers.length pa0, .int .i64 c1.writer, .slice aa2 c1.q.length pa2] := d8; clear d8
        have e9 : u 9 = .bool true := d9; clear d9
        simp only [putL, Act.put, List.setIfInBounds_toArray, List.set_cons_zero, List.set_cons_succ, e0, e1, e2, e3, e4, e5, e6, e7, e8, e9] at hK ⊢
        refine Closed.mk ?_
        go_simp
        exact hK.out _ _ ⟨hA, hN, x_a, x_b, o_a, o_b⟩ trivial rfl
      · refine GoalL.mk (by rfl) ⟨fun _ _ _ _ _ h => h, fun _ _ _ _ _ _ h => h⟩ ?_
        intro f u wq hf hC hD K hK
        have hA := hC.1; have hN := hC.2.1; have x_a := hC.2.2.1; have x_b := hC.2.2.2.1; have o_a := hC.2.2.2.2.1; have o_b := hC.2.2.2.2.2; clear hC
        have d0 := hD.1; have d1 := hD.2.1; have d2 := hD.2.2.1; have d3 := hD.2.2.2.1; have d4 := hD.2.2.2.2.1; have d5 := hD.2.2.2.2.2.1; have d6 := hD.2.2.2.2.2.2.1; have d7 := hD.2.2.2.2.2.2.2.1; have d8 := hD.2.2.2.2.2.2.2.2.1; have d9 := hD.2.2.2.2.2.2.2.2.2.1; have d10 := hD.2.2.2.2.2.2.2.2.2.2.1; clear hD
        have e0 : u 0 = .bool true := d0; clear d0
        have e1 : u 1 = .agg #[.slice aa0 c1.readers.length pa0, .int .i64 c1.writer, .slice aa2 c1.q.length pa2] := d1; clear d1
        have e2 : u 2 = .agg #[.slice ab0 c2.readers.length pb0, .int .i64 c2.writer, .slice ab2 c2.q.length pb2] := d2; clear d2
        have e3 : u 3 = .bool true := d3; clear d3
        have e4 : u 4 = .bool true := d4; clear d4
        have e5 : u 5 = .bool true := d5; clear d5
        have e6 : u 6 = .bool true := d6; clear d6
        have e7 : u 7 = .agg #[.slice ab0 c2.readers.length pb0, .int .i64 c2.writer, .slice ab2 c2.q.length pb2] := d7; clear d7
        have e8 : u 8 = .agg #[.slice aa0 c1.readers.length pa0, .int .i64 c1.writer, .slice aa2 c1.q.length pa2] := d8; clear d8
        have e9 : u 9 = .bool true := d9; clear d9
        have e10 : u 10 = .bool true := d10; clear d10
        simp only [putL, Act.put, List.setIfInBounds_toArray, List.set_cons_zero, List.set_cons_succ, e0, e1, e2, e3, e4, e5, e6, e7, e8, e9, e10] at hK ⊢
        refine Closed.mk ?_
        go_simp
        exact hK.out _ _ ⟨hA, hN, x_a, x_b, o_a, o_b⟩ trivial rfl
      · refine GoalL.mk (by rfl) ⟨fun _ _ _ _ _ h => h, fun _ _ _ _ _ _ h => h⟩ ?_
        intro f u wq hf hC hD K hK
        have hA := hC.1; have hN := hC.2.1; have x_a := hC.2.2.1; have x_b := hC.2.2.2.1; have o_a := hC.2.2.2.2.1; have o_b := hC.2.2.2.2.2; clear hC
        have d0 := hD.1; have d1 := hD.2.1; have d2 := hD.2.2.1; have d3 := hD.2.2.2.1; have d4 := hD.2.2.2.2.1; have d5 := hD.2.2.2.2.2.1; have d6 := hD.2.2.2.2.2.2.1; have d7 := hD.2.2.2.2.2.2.2.1; have d8 := hD.2.2.2.2.2.2.2.2.1; have d9 := hD.2.2.2.2.2.2.2.2.2.1; have d10 := hD.2.2.2.2.2.2.2.2.2.2.1; have d11 := hD.2.2.2.2.2.2.2.2.2.2.2.1; clear hD
        have e0 : u 0 = .bool true := d0; clear d0
        have e1 : u 1 = .agg #[.slice aa0 c1.readers.length pa0, .int .i64 c1.writer, .slice aa2 c1.q.length pa2] := d1; clear d1
        have e2 : u 2 = .agg #[.slice ab0 c2.readers.length pb0, .int .i64 c2.writer, .slice ab2 c2.q.length pb2] := d2; clear d2
        have e3 : u 3 = .bool true := d3; clear d3
        have e4 : u 4 = .bool true := d4; clear d4
        have e5 : u 5 = .bool true := d5; clear d5
        have e6 : u 6 = .bool true := d6; clear d6
        have e7 : u 7 = .agg #[.slice ab0 c2.readers.length pb0, .int .i64 c2.writer, .slice ab2 c2.q.length pb2] := d7; clear d7
        have e8 : u 8 = .agg #[.slice aa0 c1.readers.length pa0, .int .i64 c1.writer, .slice aa2 c1.q.length pa2] := d8; clear d8
        have e9 : u 9 = .bool true := d9; clear d9
        have e10 : u 10 = .bool true := d10; clear d10
        have e11 : u 11 = .bool true := d11; clear d11
        simp only [putL, Act.put, List.setIfInBounds_toArray, List.set_cons_zero, List.set_cons_succ, e0, e1, e2, e3, e4, e5, e6, e7, e8, e9, e10, e11] at hK ⊢
        refine Closed.mk ?_
        go_simp
        exact hK.out _ _ ⟨hA, hN, x_a, x_b, o_a, o_b⟩ trivial rfl
      · refine GoalL.mk (by rfl) ⟨fun _ _ _ _ _ h => h, fun _ _ _ _ _ _ h => h⟩ ?_
        intro f u wq hf hC hD K hK
        have hA := hC.1; have hN := hC.2.1; have x_a := hC.2.2.1; have x_b := hC.2.2.2.1; have o_a := hC.2.2.2.2.1; have o_b := hC.2.2.2.2.2; clear hC
        have d0 := hD.1; have d1 := hD.2.1; have d2 := hD.2.2.1; have d3 := hD.2.2.2.1; have d4 := hD.2.2.2.2.1; have d5 := hD.2.2.2.2.2.1; have d6 := hD.2.2.2.2.2.2.1; have d7 := hD.2.2.2.2.2.2.2.1; have d8 := hD.2.2.2.2.2.2.2.2.1; have d9 := hD.2.2.2.2.2.2.2.2.2.1; have d10 := hD.2.2.2.2.2.2.2.2.2.2.1; have d11 := hD.2.2.2.2.2.2.2.2.2.2.2.1; have d12 := hD.2.2.2.2.2.2.2.2.2.2.2.2.1; clear hD
        have e0 : u 0 = .bool true := d0; clear d0
        have e1 : u 1 = .agg #[.slice aa0 c1.readers.length pa0, .int .i64 c1.writer, .slice aa2 c1.q.length pa2] := d1; clear d1
        have e2 : u 2 = .agg #[.slice ab0 c2.readers.length pb0, .int .i64 c2.writer, .slice ab2 c2.q.length pb2] := d2; clear d2
        have e3 : u 3 = .bool true := d3; clear d3
        have e4 : u 4 = .bool true := d4; clear d4
        have e5 : u 5 = .bool true := d5; clear d5
        have e6 : u 6 = .bool true := d6; clear d6
        have e7 : u 7 = .agg #[.slice ab0 c2.readers.length pb0, .int .i64 c2.writer, .slice ab2 c2.q.length pb2] := d7; clear d7
        have e8 : u 8 = .agg #[.slice aa0 c1.readers.length pa0, .int .i64 c1.writer, .slice aa2 c1.q.length pa2] := d8; clear d8
        have e9 : u 9 = .bool true := d9; clear d9
        have e10 : u 10 = .bool true := d10; clear d10
        have e11 : u 11 = .bool true := d11; clear d11
        have e12 : u 12 = .bool true := d12; clear d12
        simp only [putL, Act.put, List.setIfInBounds_toArray, List.set_cons_zero, List.set_cons_succ, e0, e1, e2, e3, e4, e5, e6, e7, e8, e9, e10, e11, e12] at hK ⊢
        obtain ⟨ka_0, ka_1, ka_2, fa_0, fa_1, fa_2⟩ := box3 x_a
        refine Closed.mk ?_
        go_simp
        exact hK.out _ _ ⟨hA, hN, x_a, x_b, o_a, o_b⟩ trivial rfl
      · refine GoalL.mk (by rfl) ⟨fun _ _ _ _ _ h => h, fun _ _ _ _ _ _ h => h⟩ ?_
        intro f u wq hf hC hD K hK
        have hA := hC.1; have hN := hC.2.1; have x_a := hC.2.2.1; have x_b := hC.2.2.2.1; have o_a := hC.2.2.2.2.1; have o_b := hC.2.2.2.2.2; clear hC
        have d0 := hD.1; have d1 := hD.2.1; have d2 := hD.2.2.1; have d3 := hD.2.2.2.1; have d4 := hD.2.2.2.2.1; have d5 := hD.2.2.2.2.2.1; have d6 := hD.2.2.2.2.2.2.1; have d7 := hD.2.2.2.2.2.2.2.1; have d8 := hD.2.2.2.2.2.2.2.2.1; have d9 := hD.2.2.2.2.2.2.2.2.2.1; have d10 := hD.2.2.2.2.2.2.2.2.2.2.1; have d11 := hD.2.2.2.2.2.2.2.2.2.2.2.1; have d12 := hD.2.2.2.2.2.2.2.2.2.2.2.2.1; clear hD
        have e0 : u 0 = .bool true := d0; clear d0
        have e1 : u 1 = .agg #[.slice aa0 c1.readers.length pa0, .int .i64 c1.writer, .slice aa2 c1.q.length pa2] := d1; clear d1
        have e2 : u 2 = .agg #[.slice ab0 c2.readers.length pb0, .int .i64 c2.writer, .slice ab2 c2.q.length pb2] := d2; clear d2
        have e3 : u 3 = .bool true := d3; clear d3
        have e4 : u 4 = .bool true := d4; clear d4
        have e5 : u 5 = .bool true := d5; clear d5
        have e6 : u 6 = .bool true := d6; clear d6
        have e7 : u 7 = .agg #[.slice ab0 c2.readers.length pb0, .int .i64 c2.writer, .slice ab2 c2.q.length pb2] := d7; clear d7
        have e8 : u 8 = .agg #[.slice aa0 c1.readers.length pa0, .int .i64 c1.writer, .slice aa2 c1.q.length pa2] := d8; clear d8
        have e9 : u 9 = .bool true := d9; clear d9
        have e10 : u 10 = .bool true := d10; clear d10
        have e11 : u 11 = .bool true := d11; clear d11
        have e12 : u 12 = .bool true := d12; clear d12
        simp only [putL, Act.put, List.setIfInBounds_toArray, List.set_cons_zero, List.set_cons_succ, e0, e1, e2, e3, e4, e5, e6, e7, e8, e9, e10, e11, e12] at hK ⊢
        obtain ⟨ka_0, ka_1, ka_2, fa_0, fa_1, fa_2⟩ := box3 x_a
        refine Closed.mk ?_
        go_simp
        exact hK.out _ _ ⟨hA, hN, x_a, x_b, o_a, o_b⟩ trivial rfl
      · refine GoalL.mk (by rfl) ⟨fun _ _ _ _ _ h => h, fun _ _ _ _ _ _ h => h⟩ ?_
        intro f u wq hf hC hD K hK
        have hA := hC.1; have hN := hC.2.1; have x_a := hC.2.2.1; have x_b := hC.2.2.2.1; have o_a := hC.2.2.2.2.1; have o_b := hC.2.2.2.2.2; clear hC
        have d0 := hD.1; have d1 := hD.2.1; have d2 := hD.2.2.1; have d3 := hD.2.2.2.1; have d4 := hD.2.2.2.2.1; have d5 := hD.2.2.2.2.2.1; have d6 := hD.2.2.2.2.2.2.1; have d7 := hD.2.2.2.2.2.2.2.1; have d8 := hD.2.2.2.2.2.2.2.2.1; have d9 := hD.2.2.2.2.2.2.2.2.2.1; have d10 := hD.2.2.2.2.2.2.2.2.2.2.1; have d11 := hD.2.2.2.2.2.2.2.2.2.2.2.1; have d12 := hD.2.2.2.2.2.2.2.2.2.2.2.2.1; have d13 := hD.2.2.2.2.2.2.2.2.2.2.2.2.2.1; have d14 := hD.2.2.2.2.2.2.2.2.2.2.2.2.2.2.1; clear hD
        have e0 : u 0 = .bool true := d0; clear d0
        have e1 : u 1 = .agg #[.slice aa0 c1.readers.length pa0, .int .i64 c1.writer, .slice aa2 c1.q.length pa2] := d1; clear d1
        have e2 : u 2 = .agg #[.slice ab0 c2.readers.length pb0, .int .i64 c2.writer, .slice ab2 c2.q.length pb2] := d2; clear d2
        have e3 : u 3 = .bool true := d3; clear d3
        have e4 : u 4 = .bool true := d4; clear d4
        have e5 : u 5 = .bool true := d5; clear d5
        have e6 : u 6 = .bool true := d6; clear d6
        have e7 : u 7 = .agg #[.slice ab0 c2.readers.length pb0, .int .i64 c2.writer, .slice ab2 c2.q.length pb2] := d7; clear d7
        have e8 : u 8 = .agg #[.slice aa0 c1.readers.length pa0, .int .i64 c1.writer, .slice aa2 c1.q.length pa2] := d8; clear d8
        have e9 : u 9 = .bool true := d9; clear d9
        have e10 : u 10 = .bool true := d10; clear d10
        have e11 : u 11 = .bool true := d11; clear d11
        have e12 : u 12 = .bool true := d12; clear d12
        have e13 : u 13 = .agg #[.slice aa0 c1.readers.length pa0, .int .i64 c1.writer, .slice aa2 c1.q.length pa2] := d13; clear d13
        have e14 : u 14 = .agg #[.slice aa0 c1.readers.length pa0, .int .i64 c1.writer, .slice aa2 c1.q.length pa2] := d14; clear d14
        simp only [putL, Act.put, List.setIfInBounds_toArray, List.set_cons_zero, List.set_cons_succ, e0, e1, e2, e3, e4, e5, e6, e7, e8, e9, e10, e11, e12, e13, e14] at hK ⊢
        refine Closed.mk ?_
        go_simp
        refine (LockSameO _ _ c1 c1 _ (o_a.row) (o_a.row)).mono ?_
        rw [decide_eq_true rfl]
        rintro e wr ⟨rfl, hb⟩
        exact hK.out _ _ ⟨Below.trans hA (hb.mono hA.size), Nat.le_trans hN hb.size, (below_at hb x_a), (below_at hb x_b), (o_a.kept hb), (o_b.kept hb)⟩ trivial rfl
      · refine GoalL.mk (by rfl) ⟨fun _ _ _ _ _ h => h, fun _ _ _ _ _ _ h => h⟩ ?_
        intro f u wq hf hC hD K hK
        have hA := hC.1; have hN := hC.2.1; have x_a := hC.2.2.1; have x_b := hC.2.2.2.1; have o_a := hC.2.2.2.2.1; have o_b := hC.2.2.2.2.2; clear hC
        have d0 := hD.1; have d1 := hD.2.1; have d2 := hD.2.2.1; have d3 := hD.2.2.2.1; have d4 := hD.2.2.2.2.1; have d5 := hD.2.2.2.2.2.1; have d6 := hD.2.2.2.2.2.2.1; have d7 := hD.2.2.2.2.2.2.2.1; have d8 := hD.2.2.2.2.2.2.2.2.1; have d9 := hD.2.2.2.2.2.2.2.2.2.1; have d10 := hD.2.2.2.2.2.2.2.2.2.2.1; have d11 := hD.2.2.2.2.2.2.2.2.2.2.2.1; have d12 := hD.2.2.2.2.2.2.2.2.2.2.2.2.1; have d13 := hD.2.2.2.2.2.2.2.2.2.2.2.2.2.1; have d14 := hD.2.2.2.2.2.2.2.2.2.2.2.2.2.2.1; have d15 := hD.2.2.2.2.2.2.2.2.2.2.2.2.2.2.2.1; clear hD
        have e0 : u 0 = .bool true := d0; clear d0
        have e1 : u 1 = .agg #[.slice aa0 c1.readers.length pa0, .int .i64 c1.writer, .slice aa2 c1.q.length pa2] := d1; clear d1
        have e2 : u 2 = .agg #[.slice ab0 c2.readers.length pb0, .int .i64 c2.writer, .slice ab2 c2.q.length pb2] := d2; clear d2
        have e3 : u 3 = .bool true := d3; clear d3
        have e4 : u 4 = .bool true := d4; clear d4
        have e5 : u 5 = .bool true := d5; clear d5
        have e6 : u 6 = .bool true := d6; clear d6
        have e7 : u 7 = .agg #[.slice ab0 c2.readers.length pb0, .int .i64 c2.writer, .slice ab2 c2.q.length pb2] := d7; clear d7
        have e8 : u 8 = .agg #[.slice aa0 c1.readers.length pa0, .int .i64 c1.writer, .slice aa2 c1.q.length pa2] := d8; clear d8
        have e9 : u 9 = .bool true := d9; clear d9
        have e10 : u 10 = .bool true := d10; clear d10
        have e11 : u 11 = .bool true := d11; clear d11
        have e12 : u 12 = .bool true := d12; clear d12
        have e13 : u 13 = .agg #[.slice aa0 c1.readers.length pa0, .int .i64 c1.writer, .slice aa2 c1.q.length pa2] := d13; clear d13
        have e14 : u 14 = .agg #[.slice aa0 c1.readers.length pa0, .int .i64 c1.writer, .slice aa2 c1.q.length pa2] := d14; clear d14
        have e15 : u 15 = .bool true := d15; clear d15
        simp only [putL, Act.put, List.setIfInBounds_toArray, List.set_cons_zero, List.set_cons_succ, e0, e1, e2, e3, e4, e5, e6, e7, e8, e9, e10, e11, e12, e13, e14, e15] at hK ⊢
        refine Closed.mk ?_
        go_simp
        exact hK.out _ _ ⟨hA, hN, x_a, x_b, o_a, o_b⟩ trivial rfl
      · refine GoalL.mk (by rfl) ⟨fun _ _ _ _ _ h => h, fun _ _ _ _ _ _ h => h⟩ ?_
        intro f u wq hf hC hD K hK
        have hA := hC.1; have hN := hC.2.1; have x_a := hC.2.2.1; have x_b := hC.2.2.2.1; have o_a := hC.2.2.2.2.1; have o_b := hC.2.2.2.2.2; clear hC
        have d0 := hD.1; have d1 := hD.2.1; have d2 := hD.2.2.1; have d3 := hD.2.2.2.1; have d4 := hD.2.2.2.2.1; have d5 := hD.2.2.2.2.2.1; have d6 := hD.2.2.2.2.2.2.1; have d7 := hD.2.2.2.2.2.2.2.1; have d8 := hD.2.2.2.2.2.2.2.2.1; have d9 := hD.2.2.2.2.2.2.2.2.2.1; have d10 := hD.2.2.2.2.2.2.2.2.2.2.1; have d11 := hD.2.2.2.2.2.2.2.2.2.2.2.1; have d12 := hD.2.2.2.2.2.2.2.2.2.2.2.2.1; have d13 := hD.2.2.2.2.2.2.2.2.2.2.2.2.2.1; have d14 := hD.2.2.2.2.2.2.2.2.2.2.2.2.2.2.1; have d15 := hD.2.2.2.2.2.2.2.2.2.2.2.2.2.2.2.1; have d16 := hD.2.2.2.2.2.2.2.2.2.2.2.2.2.2.2.2.1; clear hD
        have e0 : u 0 = .bool true := d0; clear d0
        have e1 : u 1 = .agg #[.slice aa0 c1.readers.length pa0, .int .i64 c1.writer, .slice aa2 c1.q.length pa2] := d1; clear d1
        have e2 : u 2 = .agg #[.slice ab0 c2.readers.length pb0, .int .i64 c2.writer, .slice ab2 c2.q.length pb2] := d2; clear d2
        have e3 : u 3 = .bool true := d3; clear d3
        have e4 : u 4 = .bool true := d4; clear d4
        have e5 : u 5 = .bool true := d5; clear d5
        have e6 : u 6 = .bool true := d6; clear d6
        have e7 : u 7 = .agg #[.slice ab0 c2.readers.length pb0, .int .i64 c2.writer, .slice ab2 c2.q.length pb2] := d7; clear d7
        have e8 : u 8 = .agg #[.slice aa0 c1.readers.length pa0, .int .i64 c1.writer, .slice aa2 c1.q.length pa2] := d8; clear d8
        have e9 : u 9 = .bool true := d9; clear d9
        have e10 : u 10 = .bool true := d10; clear d10
        have e11 : u 11 = .bool true := d11; clear d11
        have e12 : u 12 = .bool true := d12; clear d12
        have e13 : u 13 = .agg #[.slice aa0 c1.readers.length pa0, .int .i64 c1.writer, .slice aa2 c1.q.length pa2] := d13; clear d13
        have e14 : u 14 = .agg #[.slice aa0 c1.readers.length pa0, .int .i64 c1.writer, .slice aa2 c1.q.length pa2] := d14; clear d14
        have e15 : u 15 = .bool true := d15; clear d15
        have e16 : u 16 = .bool true := d16; clear d16
        simp only [putL, Act.put, List.setIfInBounds_toArray, List.set_cons_zero, List.set_cons_succ, e0, e1, e2, e3, e4, e5, e6, e7, e8, e9, e10, e11, e12, e13, e14, e15, e16] at hK ⊢
        refine Closed.mk ?_
        go_simp
        exact hK.out _ _ ⟨hA, hN, x_a, x_b, o_a, o_b⟩ trivial rfl
      · refine GoalL.mk (by rfl) ⟨fun _ _ _ _ _ h => h, fun _ _ _ _ _ _ h => h⟩ ?_
        intro f u wq hf hC hD K hK
        have hA := hC.1; have hN := hC.2.1; have x_a := hC.2.2.1; have x_b := hC.2.2.2.1; have o_a := hC.2.2.2.2.1; have o_b := hC.2.2.2.2.2; clear hC
        have d0 := hD.1; have d1 := hD.2.1; have d2 := hD.2.2.1; have d3 := hD.2.2.2.1; have d4 := hD.2.2.2.2.1; have d5 := hD.2.2.2.2.2.1; have d6 := hD.2.2.2.2.2.2.1; have d7 := hD.2.2.2.2.2.2.2.1; have d8 := hD.2.2.2.2.2.2.2.2.1; have d9 := hD.2.2.2.2.2.2.2.2.2.1; have d10 := hD.2.2.2.2.2.2.2.2.2.2.1; have d11 := hD.2.2.2.2.2.2.2.2.2.2.2.1; have d12 := hD.2.2.2.2.2.2.2.2.2.2.2.2.1; have d13 := hD.2.2.2.2.2.2.2.2.2.2.2.2.2.1; have d14 := hD.2.2.2.2.2.2.2.2.2.2.2.2.2.2.1; have d15 := hD.2.2.2.2.2.2.2.2.2.2.2.2.2.2.2.1; have d16 := hD.2.2.2.2.2.2.2.2.2.2.2.2.2.2.2.2.1; have d17 := hD.2.2.2.2.2.2.2.2.2.2.2.2.2.2.2.2.2.1; clear hD
        have e0 : u 0 = .bool true := d0; clear d0
        have e1 : u 1 = .agg #[.slice aa0 c1.readers.length pa0, .int .i64 c1.writer, .slice aa2 c1.q.length pa2] := d1; clear d1
        have e2 : u 2 = .agg #[.slice ab0 c2.readers.length pb0, .int .i64 c2.writer, .slice ab2 c2.q.length pb2] := d2; clear d2
        have e3 : u 3 = .bool true := d3; clear d3
        have e4 : u 4 = .bool true := d4; clear d4
        have e5 : u 5 = .bool true := d5; clear d5
        have e6 : u 6 = .bool true := d6; clear d6
        have e7 : u 7 = .agg #[.slice ab0 c2.readers.length pb0, .int .i64 c2.writer, .slice ab2 c2.q.length pb2] := d7; clear d7
        have e8 : u 8 = .agg #[.slice aa0 c1.readers.length pa0, .int .i64 c1.writer, .slice aa2 c1.q.length pa2] := d8; clear d8
        have e9 : u 9 = .bool true := d9; clear d9
        have e10 : u 10 = .bool true := d10; clear d10
        have e11 : u 11 = .bool true := d11; clear d11
        have e12 : u 12 = .bool true := d12; clear d12
        have e13 : u 13 = .agg #[.slice aa0 c1.readers.length pa0, .int .i64 c1.writer, .slice aa2 c1.q.length pa2] := d13; clear d13
        have e14 : u 14 = .agg #[.slice aa0 c1.readers.length pa0, .int .i64 c1.writer, .slice aa2 c1.q.length pa2] := d14; clear d14
        have e15 : u 15 = .bool true := d15; clear d15
        have e16 : u 16 = .bool true := d16; clear d16
        have e17 : u 17 = .bool true := d17; clear d17
        simp only [putL, Act.put, List.setIfInBounds_toArray, List.set_cons_zero, List.set_cons_succ, e0, e1, e2, e3, e4, e5, e6, e7, e8, e9, e10, e11, e12, e13, e14, e15, e16, e17] at hK ⊢
        refine Closed.mk ?_
        go_simp
        exact hK.out _ _ ⟨hA, hN, x_a, x_b, o_a, o_b⟩ trivial rfl
      · refine GoalL.mk (by rfl) ⟨fun _ _ _ _ _ h => h, fun _ _ _ _ _ _ h => h⟩ ?_
        intro f u wq hf hC hD K hK
        have hA := hC.1; have hN := hC.2.1; have x_a := hC.2.2.1; have x_b := hC.2.2.2.1; have o_a := hC.2.2.2.2.1; have o_b := hC.2.2.2.2.2; clear hC
        have d0 := hD.1; have d1 := hD.2.1; have d2 := hD.2.2.1; have d3 := hD.2.2.2.1; have d4 := hD.2.2.2.2.1; have d5 := hD.2.2.2.2.2.1; have d6 := hD.2.2.2.2.2.2.1; have d7 := hD.2.2.2.2.2.2.2.1; have d8 := hD.2.2.2.2.2.2.2.2.1; have d9 := hD.2.2.2.2.2.2.2.2.2.1; have d10 := hD.2.2.2.2.2.2.2.2.2.2.1; have d11 := hD.2.2.2.2.2.2.2.2.2.2.2.1; have d12 := hD.2.2.2.2.2.2.2.2.2.2.2.2.1; have d13 := hD.2.2.2.2.2.2.2.2.2.2.2.2.2.1; have d14 := hD.2.2.2.2.2.2.2.2.2.2.2.2.2.2.1; have d15 := hD.2.2.2.2.2.2.2.2.2.2.2.2.2.2.2.1; have d16 := hD.2.2.2.2.2.2.2.2.2.2.2.2.2.2.2.2.1; have d17 := hD.2.2.2.2.2.2.2.2.2.2.2.2.2.2.2.2.2.1; have d18 := hD.2.2.2.2.2.2.2.2.2.2.2.2.2.2.2.2.2.2.1; clear hD
        have e0 : u 0 = .bool true := d0; clear d0
        have e1 : u 1 = .agg #[.slice aa0 c1.readers.length pa0, .int .i64 c1.writer, .slice aa2 c1.q.length pa2] := d1; clear d1
        have e2 : u 2 = .agg #[.slice ab0 c2.readers.length pb0, .int .i64 c2.writer, .slice ab2 c2.q.length pb2] := d2; clear d2
        have e3 : u 3 = .bool true := d3; clear d3
        have e4 : u 4 = .bool true := d4; clear d4
        have e5 : u 5 = .bool true := d5; clear d5
        have e6 : u 6 = .bool true := d6; clear d6
        have e7 : u 7 = .agg #[.slice ab0 c2.readers.length pb0, .int .i64 c2.writer, .slice ab2 c2.q.length pb2] := d7; clear d7
        have e8 : u 8 = .agg #[.slice aa0 c1.readers.length pa0, .int .i64 c1.writer, .slice aa2 c1.q.length pa2] := d8; clear d8
        have e9 : u 9 = .bool true := d9; clear d9
        have e10 : u 10 = .bool true := d10; clear d10
        have e11 : u 11 = .bool true := d11; clear d11
        have e12 : u 12 = .bool true := d12; clear d12
        have e13 : u 13 = .agg #[.slice aa0 c1.readers.length pa0, .int .i64 c1.writer, .slice aa2 c1.q.length pa2] := d13; clear d13
        have e14 : u 14 = .agg #[.slice aa0 c1.readers.length pa0, .int .i64 c1.writer, .slice aa2 c1.q.length pa2] := d14; clear d14
        have e15 : u 15 = .bool true := d15; clear d15
        have e16 : u 16 = .bool true := d16; clear d16
        have e17 : u 17 = .bool true := d17; clear d17
        have e18 : u 18 = .bool true := d18; clear d18
        simp only [putL, Act.put, List.setIfInBounds_toArray, List.set_cons_zero, List.set_cons_succ, e0, e1, e2, e3, e4, e5, e6, e7, e8, e9, e10, e11, e12, e13, e14, e15, e16, e17, e18] at hK ⊢
        refine Closed.mk ?_
        go_simp
        exact hK.out _ _ ⟨hA, hN, x_a, x_b, o_a, o_b⟩ trivial rfl
      · refine GoalL.mk (by rfl) ⟨fun _ _ _ _ _ h => h, fun _ _ _ _ _ _ h => h⟩ ?_
        intro f u wq hf hC hD K hK
        have hA := hC.1; have hN := hC.2.1; have x_a := hC.2.2.1; have x_b := hC.2.2.2.1; have o_a := hC.2.2.2.2.1; have o_b := hC.2.2.2.2.2; clear hC
        have d0 := hD.1; have d1 := hD.2.1; have d2 := hD.2.2.1; have d3 := hD.2.2.2.1; have d4 := hD.2.2.2.2.1; have d5 := hD.2.2.2.2.2.1; have d6 := hD.2.2.2.2.2.2.1; have d7 := hD.2.2.2.2.2.2.2.1; have d8 := hD.2.2.2.2.2.2.2.2.1; have d9 := hD.2.2.2.2.2.2.2.2.2.1; have d10 := hD.2.2.2.2.2.2.2.2.2.2.1; have d11 := hD.2.2.2.2.2.2.2.2.2.2.2.1; have d12 := hD.2.2.2.2.2.2.2.2.2.2.2.2.1; have d13 := hD.2.2.2.2.2.2.2.2.2.2.2.2.2.1; have d14 := hD.2.2.2.2.2.2.2.2.2.2.2.2.2.2.1; have d15 := hD.2.2.2.2.2.2.2.2.2.2.2.2.2.2.2.1; have d16 := hD.2.2.2.2.2.2.2.2.2.2.2.2.2.2.2.2.1; have d17 := hD.2.2.2.2.2.2.2.2.2.2.2.2.2.2.2.2.2.1; have d18 := hD.2.2.2.2.2.2.2.2.2.2.2.2.2.2.2.2.2.2.1; have d19 := hD.2.2.2.2.2.2.2.2.2.2.2.2.2.2.2.2.2.2.2.1; clear hD
        have e0 : u 0 = .bool true := d0; clear d0
        have e1 : u 1 = .agg #[.slice aa0 c1.readers.length pa0, .int .i64 c1.writer, .slice aa2 c1.q.length pa2] := d1; clear d1
        have e2 : u 2 = .agg #[.slice ab0 c2.readers.length pb0, .int .i64 c2.writer, .slice ab2 c2.q.length pb2] := d2; clear d2
        have e3 : u 3 = .bool true := d3; clear d3
        have e4 : u 4 = .bool true := d4; clear d4
        have e5 : u 5 = .bool true := d5; clear d5
        have e6 : u 6 = .bool true := d6; clear d6
        have e7 : u 7 = .agg #[.slice ab0 c2.readers.length pb0, .int .i64 c2.writer, .slice ab2 c2.q.length pb2] := d7; clear d7
        have e8 : u 8 = .agg #[.slice aa0 c1.readers.length pa0, .int .i64 c1.writer, .slice aa2 c1.q.length pa2] := d8; clear d8
        have e9 : u 9 = .bool true := d9; clear d9
        have e10 : u 10 = .bool true := d10; clear d10
        have e11 : u 11 = .bool true := d11; clear d11
        have e12 : u 12 = .bool true := d12; clear d12
        have e13 : u 13 = .agg #[.slice aa0 c1.readers.length pa0, .int .i64 c1.writer, .slice aa2 c1.q.length pa2] := d13; clear d13
        have e14 : u 14 = .agg #[.slice aa0 c1.readers.length pa0, .int .i64 c1.writer, .slice aa2 c1.q.length pa2] := d14; clear d14
        have e15 : u 15 = .bool true := d15; clear d15
        have e16 : u 16 = .bool true := d16; clear d16
        have e17 : u 17 = .bool true := d17; clear d17
        have e18 : u 18 = .bool true := d18; clear d18
        have e19 : u 19 = .bool false := d19; clear d19
        simp only [putL, Act.put, List.setIfInBounds_toArray, List.set_cons_zero, List.set_cons_succ, e0, e1, e2, e3, e4, e5, e6, e7, e8, e9, e10, e11, e12, e13, e14, e15, e16, e17, e18, e19] at hK ⊢
        refine Closed.mk ?_
        go_simp
        exact hK.out _ _ ⟨hA, hN, x_a, x_b, o_a, o_b⟩ trivial rfl
      · refine GoalL.mk (by rfl) ⟨fun _ _ _ _ _ h => h, fun _ _ _ _ _ _ h => h⟩ ?_
        intro f u wq hf hC hD K hK
        have hA := hC.1; have hN := hC.2.1; have x_a := hC.2.2.1; have x_b := hC.2.2.2.1; have o_a := hC.2.2.2.2.1; have o_b := hC.2.2.2.2.2; clear hC
        have d0 := hD.1; have d1 := hD.2.1; have d2 := hD.2.2.1; have d3 := hD.2.2.2.1; have d4 := hD.2.2.2.2.1; have d5 := hD.2.2.2.2.2.1; have d6 := hD.2.2.2.2.2.2.1; have d7 := hD.2.2.2.2.2.2.2.1; have d8 := hD.2.2.2.2.2.2.2.2.1; have d9 := hD.2.2.2.2.2.2.2.2.2.1; have d10 := hD.2.2.2.2.2.2.2.2.2.2.1; have d11 := hD.2.2.2.2.2.2.2.2.2.2.2.1; have d12 := hD.2.2.2.2.2.2.2.2.2.2.2.2.1; have d13 := hD.2.2.2.2.2.2.2.2.2.2.2.2.2.1; have d14 := hD.2.2.2.2.2.2.2.2.2.2.2.2.2.2.1; have d15 := hD.2.2.2.2.2.2.2.2.2.2.2.2.2.2.2.1; have d16 := hD.2.2.2.2.2.2.2.2.2.2.2.2.2.2.2.2.1; have d17 := hD.2.2.2.2.2.2.2.2.2.2.2.2.2.2.2.2.2.1; have d18 := hD.2.2.2.2.2.2.2.2.2.2.2.2.2.2.2.2.2.2.1; have d19 := hD.2.2.2.2.2.2.2.2.2.2.2.2.2.2.2.2.2.2.2.1; have d20 := hD.2.2.2.2.2.2.2.2.2.2.2.2.2.2.2.2.2.2.2.2.1; clear hD
        have e0 : u 0 = .bool true := d0; clear d0
        have e1 : u 1 = .agg #[.slice aa0 c1.readers.length pa0, .int .i64 c1.writer, .slice aa2 c1.q.length pa2] := d1; clear d1
        have e2 : u 2 = .agg #[.slice ab0 c2.readers.length pb0, .int .i64 c2.writer, .slice ab2 c2.q.length pb2] := d2; clear d2
        have e3 : u 3 = .bool true := d3; clear d3
        have e4 : u 4 = .bool true := d4; clear d4
        have e5 : u 5 = .bool true := d5; clear d5
        have e6 : u 6 = .bool true := d6; clear d6
        have e7 : u 7 = .agg #[.slice ab0 c2.readers.length pb0, .int .i64 c2.writer, .slice ab2 c2.q.length pb2] := d7; clear d7
        have e8 : u 8 = .agg #[.slice aa0 c1.readers.length pa0, .int .i64 c1.writer, .slice aa2 c1.q.length pa2] := d8; clear d8
        have e9 : u 9 = .bool true := d9; clear d9
        have e10 : u 10 = .bool true := d10; clear d10
        have e11 : u 11 = .bool true := d11; clear d11
        have e12 : u 12 = .bool true := d12; clear d12
        have e13 : u 13 = .agg #[.slice aa0 c1.readers.length pa0, .int .i64 c1.writer, .slice aa2 c1.q.length pa2] := d13; clear d13
        have e14 : u 14 = .agg #[.slice aa0 c1.readers.length pa0, .int .i64 c1.writer, .slice aa2 c1.q.length pa2] := d14; clear d14
        have e15 : u 15 = .bool true := d15; clear d15
        have e16 : u 16 = .bool true := d16; clear d16
        have e17 : u 17 = .bool true := d17; clear d17
        have e18 : u 18 = .bool true := d18; clear d18
        have e19 : u 19 = .bool false := d19; clear d19
        have e20 : u 20 = .bool false := d20; clear d20
        simp only [putL, Act.put, List.setIfInBounds_toArray, List.set_cons_zero, List.set_cons_succ, e0, e1, e2, e3, e4, e5, e6, e7, e8, e9, e10, e11, e12, e13, e14, e15, e16, e17, e18, e19, e20] at hK ⊢
        obtain ⟨ka_0, ka_1, ka_2, fa_0, fa_1, fa_2⟩ := box3 x_a
        refine Closed.mk ?_
        go_simp
        exact hK.out _ _ ⟨hA, hN, x_a, x_b, o_a, o_b⟩ trivial rfl
      · refine GoalL.mk (by rfl) ⟨fun _ _ _ _ _ h => h, fun _ _ _ _ _ _ h => h⟩ ?_
        intro f u wq hf hC hD K hK
        have hA := hC.1; have hN := hC.2.1; have x_a := hC.2.2.1; have x_b := hC.2.2.2.1; have o_a := hC.2.2.2.2.1; have o_b := hC.2.2.2.2.2; clear hC
        have d0 := hD.1; have d1 := hD.2.1; have d2 := hD.2.2.1; have d3 := hD.2.2.2.1; have d4 := hD.2.2.2.2.1; have d5 := hD.2.2.2.2.2.1; have d6 := hD.2.2.2.2.2.2.1; have d7 := hD.2.2.2.2.2.2.2.1; have d8 := hD.2.2.2.2.2.2.2.2.1; have d9 := hD.2.2.2.2.2.2.2.2.2.1; have d10 := hD.2.2.2.2.2.2.2.2.2.2.1; have d11 := hD.2.2.2.2.2.2.2.2.2.2.2.1; have d12 := hD.2.2.2.2.2.2.2.2.2.2.2.2.1; have d13 := hD.2.2.2.2.2.2.2.2.2.2.2.2.2.1; have d14 := hD.2.2.2.2.2.2.2.2.2.2.2.2.2.2.1; have d15 := hD.2.2.2.2.2.2.2.2.2.2.2.2.2.2.2.1; have d16 := hD.2.2.2.2.2.2.2.2.2.2.2.2.2.2.2.2.1; have d17 := hD.2.2.2.2.2.2.2.2.2.2.2.2.2.2.2.2.2.1; have d18 := hD.2.2.2.2.2.2.2.2.2.2.2.2.2.2.2.2.2.2.1; have d19 := hD.2.2.2.2.2.2.2.2.2.2.2.2.2.2.2.2.2.2.2.1; have d20 := hD.2.2.2.2.2.2.2.2.2.2.2.2.2.2.2.2.2.2.2.2.1; have d21 := hD.2.2.2.2.2.2.2.2.2.2.2.2.2.2.2.2.2.2.2.2.2.1; clear hD
        have e0 : u 0 = .bool true := d0; clear d0
        have e1 : u 1 = .agg #[.slice aa0 c1.readers.length pa0, .int .i64 c1.writer, .slice aa2 c1.q.length pa2] := d1; clear d1
        have e2 : u 2 = .agg #[.slice ab0 c2.readers.length pb0, .int .i64 c2.writer, .slice ab2 c2.q.length pb2] := d2; clear d2
        have e3 : u 3 = .bool true := d3; clear d3
        have e4 : u 4 = .bool true := d4; clear d4
        have e5 : u 5 = .bool true := d5; clear d5
        have e6 : u 6 = .bool true := d6; clear d6
        have e7 : u 7 = .agg #[.slice ab0 c2.readers.length pb0, .int .i64 c2.writer, .slice ab2 c2.q.length pb2] := d7; clear d7
        have e8 : u 8 = .agg #[.slice aa0 c1.readers.length pa0, .int .i64 c1.writer, .slice aa2 c1.q.length pa2] := d8; clear d8
        have e9 : u 9 = .bool true := d9; clear d9
        have e10 : u 10 = .bool true := d10; clear d10
        have e11 : u 11 = .bool true := d11; clear d11
        have e12 : u 12 = .bool true := d12; clear d12
        have e13 : u 13 = .agg #[.slice aa0 c1.readers.length pa0, .int .i64 c1.writer, .slice aa2 c1.q.length pa2] := d13; clear d13
        have e14 : u 14 = .agg #[.slice aa0 c1.readers.length pa0, .int .i64 c1.writer, .slice aa2 c1.q.length pa2] := d14; clear d14
        have e15 : u 15 = .bool true := d15; clear d15
        have e16 : u 16 = .bool true := d16; clear d16
        have e17 : u 17 = .bool true := d17; clear d17
        have e18 : u 18 = .bool true := d18; clear d18
        have e19 : u 19 = .bool false := d19; clear d19
        have e20 : u 20 = .bool false := d20; clear d20
        have e21 : u 21 = .agg #[.slice aa0 c1.readers.length pa0, .int .i64 c1.writer, .slice aa2 c1.q.length pa2] := d21; clear d21
        simp only [putL, Act.put, List.setIfInBounds_toArray, List.set_cons_zero, List.set_cons_succ, e0, e1, e2, e3, e4, e5, e6, e7, e8, e9, e10, e11, e12, e13, e14, e15, e16, e17, e18, e19, e20, e21] at hK ⊢
        refine Closed.mk ?_
        go_simp
        refine (FormatLock_calls _ c1 _ (o_a.row) HN1.out).mono ?_
        rw [HS1.out]
        rintro e wr ⟨rfl, hb⟩
        exact hK.out _ _ ⟨Below.trans hA (hb.mono hA.size), Nat.le_trans hN hb.size, (below_at hb x_a), (below_at hb x_b), (o_a.kept hb), (o_b.kept hb)⟩ trivial rfl
      · refine GoalL.mk (by rfl) ⟨fun _ _ _ _ _ h => h, fun _ _ _ _ _ _ h => h⟩ ?_
        intro f u wq hf hC hD K hK
        have hA := hC.1; have hN := hC.2.1; have x_a := hC.2.2.1; have x_b := hC.2.2.2.1; have o_a := hC.2.2.2.2.1; have o_b := hC.2.2.2.2.2; clear hC
        have d0 := hD.1; have d1 := hD.2.1; have d2 := hD.2.2.1; have d3 := hD.2.2.2.1; have d4 := hD.2.2.2.2.1; have d5 := hD.2.2.2.2.2.1; have d6 := hD.2.2.2.2.2.2.1; have d7 := hD.2.2.2.2.2.2.2.1; have d8 := hD.2.2.2.2.2.2.2.2.1; have d9 := hD.2.2.2.2.2.2.2.2.2.1; have d10 := hD.2.2.2.2.2.2.2.2.2.2.1; have d11 := hD.2.2.2.2.2.2.2.2.2.2.2.1; have d12 := hD.2.2.2.2.2.2.2.2.2.2.2.2.1; have d13 := hD.2.2.2.2.2.2.2.2.2.2.2.2.2.1; have d14 := hD.2.2.2.2.2.2.2.2.2.2.2.2.2.2.1; have d15 := hD.2.2.2.2.2.2.2.2.2.2.2.2.2.2.2.1; have d16 := hD.2.2.2.2.2.2.2.2.2.2.2.2.2.2.2.2.1; have d17 := hD.2.2.2.2.2.2.2.2.2.2.2.2.2.2.2.2.2.1; have d18 := hD.2.2.2.2.2.2.2.2.2.2.2.2.2.2.2.2.2.2.1; have d19 := hD.2.2.2.2.2.2.2.2.2.2.2.2.2.2.2.2.2.2.2.1; have d20 := hD.2.2.2.2.2.2.2.2.2.2.2.2.2.2.2.2.2.2.2.2.1; clear hD
        have e0 : u 0 = .bool true := d0; clear d0
        have e1 : u 1 = .agg #[.slice aa0 c1.readers.length pa0, .int .i64 c1.writer, .slice aa2 c1.q.length pa2] := d1; clear d1
        have e2 : u 2 = .agg #[.slice ab0 c2.readers.length pb0, .int .i64 c2.writer, .slice ab2 c2.q.length pb2] := d2; clear d2
        have e3 : u 3 = .bool true := d3; clear d3
        have e4 : u 4 = .bool true := d4; clear d4
        have e5 : u 5 = .bool true := d5; clear d5
        have e6 : u 6 = .bool true := d6; clear d6
        have e7 : u 7 = .agg #[.slice ab0 c2.readers.length pb0, .int .i64 c2.writer, .slice ab2 c2.q.length pb2] := d7; clear d7
        have e8 : u 8 = .agg #[.slice aa0 c1.readers.length pa0, .int .i64 c1.writer, .slice aa2 c1.q.length pa2] := d8; clear d8
        have e9 : u 9 = .bool true := d9; clear d9
        have e10 : u 10 = .bool true := d10; clear d10
        have e11 : u 11 = .bool true := d11; clear d11
        have e12 : u 12 = .bool true := d12; clear d12
        have e13 : u 13 = .agg #[.slice aa0 c1.readers.length pa0, .int .i64 c1.writer, .slice aa2 c1.q.length pa2] := d13; clear d13
        have e14 : u 14 = .agg #[.slice aa0 c1.readers.length pa0, .int .i64 c1.writer, .slice aa2 c1.q.length pa2] := d14; clear d14
        have e15 : u 15 = .bool true := d15; clear d15
        have e16 : u 16 = .bool true := d16; clear d16
        have e17 : u 17 = .bool true := d17; clear d17
        have e18 : u 18 = .bool true := d18; clear d18
        have e19 : u 19 = .bool false := d19; clear d19
        have e20 : u 20 = .bool false := d20; clear d20
        simp only [putL, Act.put, List.setIfInBounds_toArray, List.set_cons_zero, List.set_cons_succ, e0, e1, e2, e3, e4, e5, e6, e7, e8, e9, e10, e11, e12, e13, e14, e15, e16, e17, e18, e19, e20] at hK ⊢
        obtain ⟨kb_0, kb_1, kb_2, fb_0, fb_1, fb_2⟩ := box3 x_b
        refine Closed.mk ?_
        go_simp
        exact hK.out _ _ ⟨hA, hN, x_a, x_b, o_a, o_b⟩ trivial rfl
      · refine GoalL.mk (by rfl) ⟨fun _ _ _ _ _ h => h, fun _ _ _ _ _ _ h => h⟩ ?_
        intro f u wq hf hC hD K hK
        have hA := hC.1; have hN := hC.2.1; have x_a := hC.2.2.1; have x_b := hC.2.2.2.1; have o_a := hC.2.2.2.2.1; have o_b := hC.2.2.2.2.2; clear hC
        have d0 := hD.1; have d1 := hD.2.1; have d2 := hD.2.2.1; have d3 := hD.2.2.2.1; have d4 := hD.2.2.2.2.1; have d5 := hD.2.2.2.2.2.1; have d6 := hD.2.2.2.2.2.2.1; have d7 := hD.2.2.2.2.2.2.2.1; have d8 := hD.2.2.2.2.2.2.2.2.1; have d9 := hD.2.2.2.2.2.2.2.2.2.1; have d10 := hD.2.2.2.2.2.2.2.2.2.2.1; have d11 := hD.2.2.2.2.2.2.2.2.2.2.2.1; have d12 := hD.2.2.2.2.2.2.2.2.2.2.2.2.1; have d13 := hD.2.2.2.2.2.2.2.2.2.2.2.2.2.1; have d14 := hD.2.2.2.2.2.2.2.2.2.2.2.2.2.2.1; have d15 := hD.2.2.2.2.2.2.2.2.2.2.2.2.2.2.2.1; have d16 := hD.2.2.2.2.2.2.2.2.2.2.2.2.2.2.2.2.1; have d17 := hD.2.2.2.2.2.2.2.2.2.2.2.2.2.2.2.2.2.1; have d18 := hD.2.2.2.2.2.2.2.2.2.2.2.2.2.2.2.2.2.2.1; have d19 := hD.2.2.2.2.2.2.2.2.2.2.2.2.2.2.2.2.2.2.2.1; have d20 := hD.2.2.2.2.2.2.2.2.2.2.2.2.2.2.2.2.2.2.2.2.1; have d23 := hD.2.2.2.2.2.2.2.2.2.2.2.2.2.2.2.2.2.2.2.2.2.1; clear hD
        have e0 : u 0 = .bool true := d0; clear d0
        have e1 : u 1 = .agg #[.slice aa0 c1.readers.length pa0, .int .i64 c1.writer, .slice aa2 c1.q.length pa2] := d1; clear d1
        have e2 : u 2 = .agg #[.slice ab0 c2.readers.length pb0, .int .i64 c2.writer, .slice ab2 c2.q.length pb2] := d2; clear d2
        have e3 : u 3 = .bool true := d3; clear d3
        have e4 : u 4 = .bool true := d4; clear d4
        have e5 : u 5 = .bool true := d5; clear d5
        have e6 : u 6 = .bool true := d6; clear d6
        have e7 : u 7 = .agg #[.slice ab0 c2.readers.length pb0, .int .i64 c2.writer, .slice ab2 c2.q.length pb2] := d7; clear d7
        have e8 : u 8 = .agg #[.slice aa0 c1.readers.length pa0, .int .i64 c1.writer, .slice aa2 c1.q.length pa2] := d8; clear d8
        have e9 : u 9 = .bool true := d9; clear d9
        have e10 : u 10 = .bool true := d10; clear d10
        have e11 : u 11 = .bool true := d11; clear d11
        have e12 : u 12 = .bool true := d12; clear d12
        have e13 : u 13 = .agg #[.slice aa0 c1.readers.length pa0, .int .i64 c1.writer, .slice aa2 c1.q.length pa2] := d13; clear d13
        have e14 : u 14 = .agg #[.slice aa0 c1.readers.length pa0, .int .i64 c1.writer, .slice aa2 c1.q.length pa2] := d14; clear d14
        have e15 : u 15 = .bool true := d15; clear d15
        have e16 : u 16 = .bool true := d16; clear d16
        have e17 : u 17 = .bool true := d17; clear d17
        have e18 : u 18 = .bool true := d18; clear d18
        have e19 : u 19 = .bool false := d19; clear d19
        have e20 : u 20 = .bool false := d20; clear d20
        have e23 : u 23 = .agg #[.slice ab0 c2.readers.length pb0, .int .i64 c2.writer, .slice ab2 c2.q.length pb2] := d23; clear d23
        simp only [putL, Act.put, List.setIfInBounds_toArray, List.set_cons_zero, List.set_cons_succ, e0, e1, e2, e3, e4, e5, e6, e7, e8, e9, e10, e11, e12, e13, e14, e15, e16, e17, e18, e19, e20, e23] at hK ⊢
        refine Closed.mk ?_
        go_simp
        refine (FormatLock_calls _ c2 _ (o_b.row) HN2.out).mono ?_
        rw [show fmtL c2 = s1 by rw [← HD.out]; exact HS1.out]
        rintro e wr ⟨rfl, hb⟩
        exact hK.out _ _ ⟨Below.trans hA (hb.mono hA.size), Nat.le_trans hN hb.size, (below_at hb x_a), (below_at hb x_b), (o_a.kept hb), (o_b.kept hb)⟩ trivial rfl
      · refine GoalL.mk (by rfl) ⟨fun _ _ _ _ _ h => h, fun _ _ _ _ _ _ h => h⟩ ?_
        intro f u wq hf hC hD K hK
        have hA := hC.1; have hN := hC.2.1; have x_a := hC.2.2.1; have x_b := hC.2.2.2.1; have o_a := hC.2.2.2.2.1; have o_b := hC.2.2.2.2.2; clear hC
        have d0 := hD.1; have d1 := hD.2.1; have d2 := hD.2.2.1; have d3 := hD.2.2.2.1; have d4 := hD.2.2.2.2.1; have d5 := hD.2.2.2.2.2.1; have d6 := hD.2.2.2.2.2.2.1; have d7 := hD.2.2.2.2.2.2.2.1; have d8 := hD.2.2.2.2.2.2.2.2.1; have d9 := hD.2.2.2.2.2.2.2.2.2.1; have d10 := hD.2.2.2.2.2.2.2.2.2.2.1; have d11 := hD.2.2.2.2.2.2.2.2.2.2.2.1; have d12 := hD.2.2.2.2.2.2.2.2.2.2.2.2.1; have d13 := hD.2.2.2.2.2.2.2.2.2.2.2.2.2.1; have d14 := hD.2.2.2.2.2.2.2.2.2.2.2.2.2.2.1; have d15 := hD.2.2.2.2.2.2.2.2.2.2.2.2.2.2.2.1; have d16 := hD.2.2.2.2.2.2.2.2.2.2.2.2.2.2.2.2.1; have d17 := hD.2.2.2.2.2.2.2.2.2.2.2.2.2.2.2.2.2.1; have d18 := hD.2.2.2.2.2.2.2.2.2.2.2.2.2.2.2.2.2.2.1; have d19 := hD.2.2.2.2.2.2.2.2.2.2.2.2.2.2.2.2.2.2.2.1; have d20 := hD.2.2.2.2.2.2.2.2.2.2.2.2.2.2.2.2.2.2.2.2.1; have d21 := hD.2.2.2.2.2.2.2.2.2.2.2.2.2.2.2.2.2.2.2.2.2.1; have d22 := hD.2.2.2.2.2.2.2.2.2.2.2.2.2.2.2.2.2.2.2.2.2.2.1; have d23 := hD.2.2.2.2.2.2.2.2.2.2.2.2.2.2.2.2.2.2.2.2.2.2.2.1; have d24 := hD.2.2.2.2.2.2.2.2.2.2.2.2.2.2.2.2.2.2.2.2.2.2.2.2.1; clear hD
        have e0 : u 0 = .bool true := d0; clear d0
        have e1 : u 1 = .agg #[.slice aa0 c1.readers.length pa0, .int .i64 c1.writer, .slice aa2 c1.q.length pa2] := d1; clear d1
        have e2 : u 2 = .agg #[.slice ab0 c2.readers.length pb0, .int .i64 c2.writer, .slice ab2 c2.q.length pb2] := d2; clear d2
        have e3 : u 3 = .bool true := d3; clear d3
        have e4 : u 4 = .bool true := d4; clear d4
        have e5 : u 5 = .bool true := d5; clear d5
        have e6 : u 6 = .bool true := d6; clear d6
        have e7 : u 7 = .agg #[.slice ab0 c2.readers.length pb0, .int .i64 c2.writer, .slice ab2 c2.q.length pb2] := d7; clear d7
        have e8 : u 8 = .agg #[.slice aa0 c1.readers.length pa0, .int .i64 c1.writer, .slice aa2 c1.q.length pa2] := d8; clear d8
        have e9 : u 9 = .bool true := d9; clear d9
        have e10 : u 10 = .bool true := d10; clear d10
        have e11 : u 11 = .bool true := d11; clear d11
        have e12 : u 12 = .bool true := d12; clear d12
        have e13 : u 13 = .agg #[.slice aa0 c1.readers.length pa0, .int .i64 c1.writer, .slice aa2 c1.q.length pa2] := d13; clear d13
        have e14 : u 14 = .agg #[.slice aa0 c1.readers.length pa0, .int .i64 c1.writer, .slice aa2 c1.q.length pa2] := d14; clear d14
        have e15 : u 15 = .bool true := d15; clear d15
        have e16 : u 16 = .bool true := d16; clear d16
        have e17 : u 17 = .bool true := d17; clear d17
        have e18 : u 18 = .bool true := d18; clear d18
        have e19 : u 19 = .bool false := d19; clear d19
        have e20 : u 20 = .bool false := d20; clear d20
        have e21 : u 21 = .agg #[.slice aa0 c1.readers.length pa0, .int .i64 c1.writer, .slice aa2 c1.q.length pa2] := d21; clear d21
        have e22 : u 22 = .string s1 := d22; clear d22
        have e23 : u 23 = .agg #[.slice ab0 c2.readers.length pb0, .int .i64 c2.writer, .slice ab2 c2.q.length pb2] := d23; clear d23
        have e24 : u 24 = .string s1 := d24; clear d24
        simp only [putL, Act.put, List.setIfInBounds_toArray, List.set_cons_zero, List.set_cons_succ, e0, e1, e2, e3, e4, e5, e6, e7, e8, e9, e10, e11, e12, e13, e14, e15, e16, e17, e18, e19, e20, e21, e22, e23, e24] at hK ⊢
        refine Closed.mk ?_
        go_simp
        exact hK.out _ _ ⟨hA, hN, x_a, x_b, o_a, o_b⟩ trivial rfl
      · refine GoalL.mk (by rfl) ⟨fun _ _ _ _ _ h => h, fun _ _ _ _ _ _ h => h⟩ ?_
        intro f u wq hf hC hD K hK
        have hA := hC.1; have hN := hC.2.1; have x_a := hC.2.2.1; have x_b := hC.2.2.2.1; have o_a := hC.2.2.2.2.1; have o_b := hC.2.2.2.2.2; clear hC
        have d0 := hD.1; have d1 := hD.2.1; have d2 := hD.2.2.1; have d3 := hD.2.2.2.1; have d4 := hD.2.2.2.2.1; have d5 := hD.2.2.2.2.2.1; have d6 := hD.2.2.2.2.2.2.1; have d7 := hD.2.2.2.2.2.2.2.1; have d8 := hD.2.2.2.2.2.2.2.2.1; have d9 := hD.2.2.2.2.2.2.2.2.2.1; have d10 := hD.2.2.2.2.2.2.2.2.2.2.1; have d11 := hD.2.2.2.2.2.2.2.2.2.2.2.1; have d12 := hD.2.2.2.2.2.2.2.2.2.2.2.2.1; have d13 := hD.2.2.2.2.2.2.2.2.2.2.2.2.2.1; have d14 := hD.2.2.2.2.2.2.2.2.2.2.2.2.2.2.1; have d15 := hD.2.2.2.2.2.2.2.2.2.2.2.2.2.2.2.1; have d16 := hD.2.2.2.2.2.2.2.2.2.2.2.2.2.2.2.2.1; have d17 := hD.2.2.2.2.2.2.2.2.2.2.2.2.2.2.2.2.2.1; have d18 := hD.2.2.2.2.2.2.2.2.2.2.2.2.2.2.2.2.2.2.1; have d19 := hD.2.2.2.2.2.2.2.2.2.2.2.2.2.2.2.2.2.2.2.1; have d20 := hD.2.2.2.2.2.2.2.2.2.2.2.2.2.2.2.2.2.2.2.2.1; have d21 := hD.2.2.2.2.2.2.2.2.2.2.2.2.2.2.2.2.2.2.2.2.2.1; have d22 := hD.2.2.2.2.2.2.2.2.2.2.2.2.2.2.2.2.2.2.2.2.2.2.1; have d23 := hD.2.2.2.2.2.2.2.2.2.2.2.2.2.2.2.2.2.2.2.2.2.2.2.1; have d24 := hD.2.2.2.2.2.2.2.2.2.2.2.2.2.2.2.2.2.2.2.2.2.2.2.2.1; have d25 := hD.2.2.2.2.2.2.2.2.2.2.2.2.2.2.2.2.2.2.2.2.2.2.2.2.2.1; clear hD
        have e0 : u 0 = .bool true := d0; clear d0
        have e1 : u 1 = .agg #[.slice aa0 c1.readers.length pa0, .int .i64 c1.writer, .slice aa2 c1.q.length pa2] := d1; clear d1
        have e2 : u 2 = .agg #[.slice ab0 c2.readers.length pb0, .int .i64 c2.writer, .slice ab2 c2.q.length pb2] := d2; clear d2
        have e3 : u 3 = .bool true := d3; clear d3
        have e4 : u 4 = .bool true := d4; clear d4
        have e5 : u 5 = .bool true := d5; clear d5
        have e6 : u 6 = .bool true := d6; clear d6
        have e7 : u 7 = .agg #[.slice ab0 c2.readers.length pb0, .int .i64 c2.writer, .slice ab2 c2.q.length pb2] := d7; clear d7
        have e8 : u 8 = .agg #[.slice aa0 c1.readers.length pa0, .int .i64 c1.writer, .slice aa2 c1.q.length pa2] := d8; clear d8
        have e9 : u 9 = .bool true := d9; clear d9
        have e10 : u 10 = .bool true := d10; clear d10
        have e11 : u 11 = .bool true := d11; clear d11
        have e12 : u 12 = .bool true := d12; clear d12
        have e13 : u 13 = .agg #[.slice aa0 c1.readers.length pa0, .int .i64 c1.writer, .slice aa2 c1.q.length pa2] := d13; clear d13
        have e14 : u 14 = .agg #[.slice aa0 c1.readers.length pa0, .int .i64 c1.writer, .slice aa2 c1.q.length pa2] := d14; clear d14
        have e15 : u 15 = .bool true := d15; clear d15
        have e16 : u 16 = .bool true := d16; clear d16
        have e17 : u 17 = .bool true := d17; clear d17
        have e18 : u 18 = .bool true := d18; clear d18
        have e19 : u 19 = .bool false := d19; clear d19
        have e20 : u 20 = .bool false := d20; clear d20
        have e21 : u 21 = .agg #[.slice aa0 c1.readers.length pa0, .int .i64 c1.writer, .slice aa2 c1.q.length pa2] := d21; clear d21
        have e22 : u 22 = .string s1 := d22; clear d22
        have e23 : u 23 = .agg #[.slice ab0 c2.readers.length pb0, .int .i64 c2.writer, .slice ab2 c2.q.length pb2] := d23; clear d23
        have e24 : u 24 = .string s1 := d24; clear d24
        have e25 : u 25 = .bool true := d25; clear d25
        simp only [putL, Act.put, List.setIfInBounds_toArray, List.set_cons_zero, List.set_cons_succ, e0, e1, e2, e3, e4, e5, e6, e7, e8, e9, e10, e11, e12, e13, e14, e15, e16, e17, e18, e19, e20, e21, e22, e23, e24, e25] at hK ⊢
        refine Closed.mk ?_
        go_simp
        exact hK.out _ _ ⟨hA, hN, x_a, x_b, o_a, o_b⟩ trivial rfl
      · refine GoalL.mk (by rfl) ⟨fun _ _ _ _ _ h => h, fun _ _ _ _ _ _ h => h⟩ ?_
        intro f u wq hf hC hD K hK
        have hA := hC.1; have hN := hC.2.1; have x_a := hC.2.2.1; have x_b := hC.2.2.2.1; have o_a := hC.2.2.2.2.1; have o_b := hC.2.2.2.2.2; clear hC
        have d0 := hD.1; have d1 := hD.2.1; have d2 := hD.2.2.1; have d3 := hD.2.2.2.1; have d4 := hD.2.2.2.2.1; have d5 := hD.2.2.2.2.2.1; have d6 := hD.2.2.2.2.2.2.1; have d7 := hD.2.2.2.2.2.2.2.1; have d8 := hD.2.2.2.2.2.2.2.2.1; have d9 := hD.2.2.2.2.2.2.2.2.2.1; have d10 := hD.2.2.2.2.2.2.2.2.2.2.1; have d11 := hD.2.2.2.2.2.2.2.2.2.2.2.1; have d12 := hD.2.2.2.2.2.2.2.2.2.2.2.2.1; have d13 := hD.2.2.2.2.2.2.2.2.2.2.2.2.2.1; have d14 := hD.2.2.2.2.2.2.2.2.2.2.2.2.2.2.1; have d15 := hD.2.2.2.2.2.2.2.2.2.2.2.2.2.2.2.1; have d16 := hD.2.2.2.2.2.2.2.2.2.2.2.2.2.2.2.2.1; have d17 := hD.2.2.2.2.2.2.2.2.2.2.2.2.2.2.2.2.2.1; have d18 := hD.2.2.2.2.2.2.2.2.2.2.2.2.2.2.2.2.2.2.1; have d19 := hD.2.2.2.2.2.2.2.2.2.2.2.2.2.2.2.2.2.2.2.1; have d20 := hD.2.2.2.2.2.2.2.2.2.2.2.2.2.2.2.2.2.2.2.2.1; have d21 := hD.2.2.2.2.2.2.2.2.2.2.2.2.2.2.2.2.2.2.2.2.2.1; have d22 := hD.2.2.2.2.2.2.2.2.2.2.2.2.2.2.2.2.2.2.2.2.2.2.1; have d23 := hD.2.2.2.2.2.2.2.2.2.2.2.2.2.2.2.2.2.2.2.2.2.2.2.1; have d24 := hD.2.2.2.2.2.2.2.2.2.2.2.2.2.2.2.2.2.2.2.2.2.2.2.2.1; have d25 := hD.2.2.2.2.2.2.2.2.2.2.2.2.2.2.2.2.2.2.2.2.2.2.2.2.2.1; have d26 := hD.2.2.2.2.2.2.2.2.2.2.2.2.2.2.2.2.2.2.2.2.2.2.2.2.2.2.1; clear hD
        have e0 : u 0 = .bool true := d0; clear d0
        have e1 : u 1 = .agg #[.slice aa0 c1.readers.length pa0, .int .i64 c1.writer, .slice aa2 c1.q.length pa2] := d1; clear d1
        have e2 : u 2 = .agg #[.slice ab0 c2.readers.length pb0, .int .i64 c2.writer, .slice ab2 c2.q.length pb2] := d2; clear d2
        have e3 : u 3 = .bool true := d3; clear d3
        have e4 : u 4 = .bool true := d4; clear d4
        have e5 : u 5 = .bool true := d5; clear d5
        have e6 : u 6 = .bool true := d6; clear d6
        have e7 : u 7 = .agg #[.slice ab0 c2.readers.length pb0, .int .i64 c2.writer, .slice ab2 c2.q.length pb2] := d7; clear d7
        have e8 : u 8 = .agg #[.slice aa0 c1.readers.length pa0, .int .i64 c1.writer, .slice aa2 c1.q.length pa2] := d8; clear d8
        have e9 : u 9 = .bool true := d9; clear d9
        have e10 : u 10 = .bool true := d10; clear d10
        have e11 : u 11 = .bool true := d11; clear d11
        have e12 : u 12 = .bool true := d12; clear d12
        have e13 : u 13 = .agg #[.slice aa0 c1.readers.length pa0, .int .i64 c1.writer, .slice aa2 c1.q.length pa2] := d13; clear d13
        have e14 : u 14 = .agg #[.slice aa0 c1.readers.length pa0, .int .i64 c1.writer, .slice aa2 c1.q.length pa2] := d14; clear d14
        have e15 : u 15 = .bool true := d15; clear d15
        have e16 : u 16 = .bool true := d16; clear d16
        have e17 : u 17 = .bool true := d17; clear d17
        have e18 : u 18 = .bool true := d18; clear d18
        have e19 : u 19 = .bool false := d19; clear d19
        have e20 : u 20 = .bool false := d20; clear d20
        have e21 : u 21 = .agg #[.slice aa0 c1.readers.length pa0, .int .i64 c1.writer, .slice aa2 c1.q.length pa2] := d21; clear d21
        have e22 : u 22 = .string s1 := d22; clear d22
        have e23 : u 23 = .agg #[.slice ab0 c2.readers.length pb0, .int .i64 c2.writer, .slice ab2 c2.q.length pb2] := d23; clear d23
        have e24 : u 24 = .string s1 := d24; clear d24
        have e25 : u 25 = .bool true := d25; clear d25
        have e26 : u 26 = .bool true := d26; clear d26
        simp only [putL, Act.put, List.setIfInBounds_toArray, List.set_cons_zero, List.set_cons_succ, e0, e1, e2, e3, e4, e5, e6, e7, e8, e9, e10, e11, e12, e13, e14, e15, e16, e17, e18, e19, e20, e21, e22, e23, e24, e25, e26] at hK ⊢
        refine Closed.mk ?_
        go_simp
        exact hK.out _ _ ⟨hA, hN, x_a, x_b, o_a, o_b⟩ trivial rfl
      · refine GoalL.mk (by rfl) ⟨fun _ _ _ _ _ h => h, fun _ _ _ _ _ _ h => h⟩ ?_
        intro f u wq hf hC hD K hK
        have hA := hC.1; have hN := hC.2.1; have x_a := hC.2.2.1; have x_b := hC.2.2.2.1; have o_a := hC.2.2.2.2.1; have o_b := hC.2.2.2.2.2; clear hC
        have d0 := hD.1; have d1 := hD.2.1; have d2 := hD.2.2.1; have d3 := hD.2.2.2.1; have d4 := hD.2.2.2.2.1; have d5 := hD.2.2.2.2.2.1; have d6 := hD.2.2.2.2.2.2.1; have d7 := hD.2.2.2.2.2.2.2.1; have d8 := hD.2.2.2.2.2.2.2.2.1; have d9 := hD.2.2.2.2.2.2.2.2.2.1; have d10 := hD.2.2.2.2.2.2.2.2.2.2.1; have d11 := hD.2.2.2.2.2.2.2.2.2.2.2.1; have d12 := hD.2.2.2.2.2.2.2.2.2.2.2.2.1; have d13 := hD.2.2.2.2.2.2.2.2.2.2.2.2.2.1; have d14 := hD.2.2.2.2.2.2.2.2.2.2.2.2.2.2.1; have d15 := hD.2.2.2.2.2.2.2.2.2.2.2.2.2.2.2.1; have d16 := hD.2.2.2.2.2.2.2.2.2.2.2.2.2.2.2.2.1; have d17 := hD.2.2.2.2.2.2.2.2.2.2.2.2.2.2.2.2.2.1; have d18 := hD.2.2.2.2.2.2.2.2.2.2.2.2.2.2.2.2.2.2.1; have d19 := hD.2.2.2.2.2.2.2.2.2.2.2.2.2.2.2.2.2.2.2.1; have d20 := hD.2.2.2.2.2.2.2.2.2.2.2.2.2.2.2.2.2.2.2.2.1; have d21 := hD.2.2.2.2.2.2.2.2.2.2.2.2.2.2.2.2.2.2.2.2.2.1; have d22 := hD.2.2.2.2.2.2.2.2.2.2.2.2.2.2.2.2.2.2.2.2.2.2.1; have d23 := hD.2.2.2.2.2.2.2.2.2.2.2.2.2.2.2.2.2.2.2.2.2.2.2.1; have d24 := hD.2.2.2.2.2.2.2.2.2.2.2.2.2.2.2.2.2.2.2.2.2.2.2.2.1; have d25 := hD.2.2.2.2.2.2.2.2.2.2.2.2.2.2.2.2.2.2.2.2.2.2.2.2.2.1; have d26 := hD.2.2.2.2.2.2.2.2.2.2.2.2.2.2.2.2.2.2.2.2.2.2.2.2.2.2.1; have d27 := hD.2.2.2.2.2.2.2.2.2.2.2.2.2.2.2.2.2.2.2.2.2.2.2.2.2.2.2.1; clear hD
        have e0 : u 0 = .bool true := d0; clear d0
        have e1 : u 1 = .agg #[.slice aa0 c1.readers.length pa0, .int .i64 c1.writer, .slice aa2 c1.q.length pa2] := d1; clear d1
        have e2 : u 2 = .agg #[.slice ab0 c2.readers.length pb0, .int .i64 c2.writer, .slice ab2 c2.q.length pb2] := d2; clear d2
        have e3 : u 3 = .bool true := d3; clear d3
        have e4 : u 4 = .bool true := d4; clear d4
        have e5 : u 5 = .bool true := d5; clear d5
        have e6 : u 6 = .bool true := d6; clear d6
        have e7 : u 7 = .agg #[.slice ab0 c2.readers.length pb0, .int .i64 c2.writer, .slice ab2 c2.q.length pb2] := d7; clear d7
        have e8 : u 8 = .agg #[.slice aa0 c1.readers.length pa0, .int .i64 c1.writer, .slice aa2 c1.q.length pa2] := d8; clear d8
        have e9 : u 9 = .bool true := d9; clear d9
        have e10 : u 10 = .bool true := d10; clear d10
        have e11 : u 11 = .bool true := d11; clear d11
        have e12 : u 12 = .bool true := d12; clear d12
        have e13 : u 13 = .agg #[.slice aa0 c1.readers.length pa0, .int .i64 c1.writer, .slice aa2 c1.q.length pa2] := d13; clear d13
        have e14 : u 14 = .agg #[.slice aa0 c1.readers.length pa0, .int .i64 c1.writer, .slice aa2 c1.q.length pa2] := d14; clear d14
        have e15 : u 15 = .bool true := d15; clear d15
        have e16 : u 16 = .bool true := d16; clear d16
        have e17 : u 17 = .bool true := d17; clear d17
        have e18 : u 18 = .bool true := d18; clear d18
        have e19 : u 19 = .bool false := d19; clear d19
        have e20 : u 20 = .bool false := d20; clear d20
        have e21 : u 21 = .agg #[.slice aa0 c1.readers.length pa0, .int .i64 c1.writer, .slice aa2 c1.q.length pa2] := d21; clear d21
        have e22 : u 22 = .string s1 := d22; clear d22
        have e23 : u 23 = .agg #[.slice ab0 c2.readers.length pb0, .int .i64 c2.writer, .slice ab2 c2.q.length pb2] := d23; clear d23
        have e24 : u 24 = .string s1 := d24; clear d24
        have e25 : u 25 = .bool true := d25; clear d25
        have e26 : u 26 = .bool true := d26; clear d26
        have e27 : u 27 = .bool true := d27; clear d27
        simp only [putL, Act.put, List.setIfInBounds_toArray, List.set_cons_zero, List.set_cons_succ, e0, e1, e2, e3, e4, e5, e6, e7, e8, e9, e10, e11, e12, e13, e14, e15, e16, e17, e18, e19, e20, e21, e22, e23, e24, e25, e26, e27] at hK ⊢
        refine Closed.mk ?_
        go_simp
        exact hK.out _ _ ⟨hA, hN, x_a, x_b, o_a, o_b⟩ trivial rfl
      intro u w3 hC hD
      have hA := hC.1; have hN := hC.2.1; have x_a := hC.2.2.1; have x_b := hC.2.2.2.1; have o_a := hC.2.2.2.2.1; have o_b := hC.2.2.2.2.2; clear hC
      have d0 := hD.1; have d1 := hD.2.1; have d2 := hD.2.2.1; have d3 := hD.2.2.2.1; have d4 := hD.2.2.2.2.1; have d5 := hD.2.2.2.2.2.1; have d6 := hD.2.2.2.2.2.2.1; have d7 := hD.2.2.2.2.2.2.2.1; have d8 := hD.2.2.2.2.2.2.2.2.1; have d9 := hD.2.2.2.2.2.2.2.2.2.1; have d10 := hD.2.2.2.2.2.2.2.2.2.2.1; have d11 := hD.2.2.2.2.2.2.2.2.2.2.2.1; have d12 := hD.2.2.2.2.2.2.2.2.2.2.2.2.1; have d13 := hD.2.2.2.2.2.2.2.2.2.2.2.2.2.1; have d14 := hD.2.2.2.2.2.2.2.2.2.2.2.2.2.2.1; have d15 := hD.2.2.2.2.2.2.2.2.2.2.2.2.2.2.2.1; have d16 := hD.2.2.2.2.2.2.2.2.2.2.2.2.2.2.2.2.1; have d17 := hD.2.2.2.2.2.2.2.2.2.2.2.2.2.2.2.2.2.1; have d18 := hD.2.2.2.2.2.2.2.2.2.2.2.2.2.2.2.2.2.2.1; have d19 := hD.2.2.2.2.2.2.2.2.2.2.2.2.2.2.2.2.2.2.2.1; have d20 := hD.2.2.2.2.2.2.2.2.2.2.2.2.2.2.2.2.2.2.2.2.1; have d21 := hD.2.2.2.2.2.2.2.2.2.2.2.2.2.2.2.2.2.2.2.2.2.1; have d22 := hD.2.2.2.2.2.2.2.2.2.2.2.2.2.2.2.2.2.2.2.2.2.2.1; have d23 := hD.2.2.2.2.2.2.2.2.2.2.2.2.2.2.2.2.2.2.2.2.2.2.2.1; have d24 := hD.2.2.2.2.2.2.2.2.2.2.2.2.2.2.2.2.2.2.2.2.2.2.2.2.1; have d25 := hD.2.2.2.2.2.2.2.2.2.2.2.2.2.2.2.2.2.2.2.2.2.2.2.2.2.1; have d26 := hD.2.2.2.2.2.2.2.2.2.2.2.2.2.2.2.2.2.2.2.2.2.2.2.2.2.2.1; have d27 := hD.2.2.2.2.2.2.2.2.2.2.2.2.2.2.2.2.2.2.2.2.2.2.2.2.2.2.2.1; have d28 := hD.2.2.2.2.2.2.2.2.2.2.2.2.2.2.2.2.2.2.2.2.2.2.2.2.2.2.2.2.1; clear hD
      have e0 : u 0 = .bool true := d0; clear d0
      have e1 : u 1 = .agg #[.slice aa0 c1.readers.length pa0, .int .i64 c1.writer, .slice aa2 c1.q.length pa2] := d1; clear d1
      have e2 : u 2 = .agg #[.slice ab0 c2.readers.length pb0, .int .i64 c2.writer, .slice ab2 c2.q.length pb2] := d2; clear d2
      have e3 : u 3 = .bool true := d3; clear d3
      have e4 : u 4 = .bool true := d4; clear d4
      have e5 : u 5 = .bool true := d5; clear d5
      have e6 : u 6 = .bool true := d6; clear d6
      have e7 : u 7 = .agg #[.slice ab0 c2.readers.length pb0, .int .i64 c2.writer, .slice ab2 c2.q.length pb2] := d7; clear d7
      have e8 : u 8 = .agg #[.slice aa0 c1.readers.length pa0, .int .i64 c1.writer, .slice aa2 c1.q.length pa2] := d8; clear d8
      have e9 : u 9 = .bool true := d9; clear d9
      have e10 : u 10 = .bool true := d10; clear d10
      have e11 : u 11 = .bool true := d11; clear d11
      have e12 : u 12 = .bool true := d12; clear d12
      have e13 : u 13 = .agg #[.slice aa0 c1.readers.length pa0, .int .i64 c1.writer, .slice aa2 c1.q.length pa2] := d13; clear d13
      have e14 : u 14 = .agg #[.slice aa0 c1.readers.length pa0, .int .i64 c1.writer, .slice aa2 c1.q.length pa2] := d14; clear d14
      have e15 : u 15 = .bool true := d15; clear d15
      have e16 : u 16 = .bool true := d16; clear d16
      have e17 : u 17 = .bool true := d17; clear d17
      have e18 : u 18 = .bool true := d18; clear d18
      have e19 : u 19 = .bool false := d19; clear d19
      have e20 : u 20 = .bool false := d20; clear d20
      have e21 : u 21 = .agg #[.slice aa0 c1.readers.length pa0, .int .i64 c1.writer, .slice aa2 c1.q.length pa2] := d21; clear d21
      have e22 : u 22 = .string s1 := d22; clear d22
      have e23 : u 23 = .agg #[.slice ab0 c2.readers.length pb0, .int .i64 c2.writer, .slice ab2 c2.q.length pb2] := d23; clear d23
      have e24 : u 24 = .string s1 := d24; clear d24
      have e25 : u 25 = .bool true := d25; clear d25
      have e26 : u 26 = .bool true := d26; clear d26
      have e27 : u 27 = .bool true := d27; clear d27
      have e28 : u 28 = .bool true := d28; clear d28
      have B3 := Lib.hid hA; have N3 := hN; have S3 := hA.size
      have Xa_3 := Lib.hid x_a; clear x_a
      have Xb_3 := Lib.hid x_b; clear x_b
      have Oa_3 := Lib.hid o_a; clear o_a
      have Ob_3 := Lib.hid o_b; clear o_b
      obtain ⟨ca3_0, ca3_1, ca3_2, fa3_0, fa3_1, fa3_2⟩ := box3 Xa_3.out; have la3 := heap_lt Xa_3.out
      obtain ⟨cb3_0, cb3_1, cb3_2, fb3_0, fb3_1, fb3_2⟩ := box3 Xb_3.out; have lb3 := heap_lt Xb_3.out
      clear hA hN
      simp only [putL, Act.put, List.setIfInBounds_toArray, List.set_cons_zero, List.set_cons_succ, e0, e1, e2, e3, e4, e5, e6, e7, e8, e9, e10, e11, e12, e13, e14, e15, e16, e17, e18, e19, e20, e21, e22, e23, e24, e25, e26, e27, e28]
      refine Closed.mk (wpAnyH_done (by kernel_rfl) ?_ _)
      go_wp2_with (fail)
      go_ret
      exact ⟨rfl, B3.out⟩
    · have HD := Lib.hid hd; have HS := Lib.hid (show ¬ c2 = c1 from fun h => hd h.symm); clear hd
      go_wp2_with (fail)
      refine (LockSameO _ _ c1 c2 _ (((Oa_1.out.alloc _).alloc _).row) (((Ob_1.out.alloc _).alloc _).row)).mono ?_
      rw [decide_eq_false HD.out]
      rintro e w2 ⟨rfl, hb⟩
      have B2 := Lib.hid (Below.trans (Below.alloc (Below.alloc B1.out (by first | omega | (simp only [szA, szS, szD, World.heap_drewN] at * <;> omega)) _) (by first | omega | (simp only [szA, szS, szD, World.heap_drewN] at * <;> omega)) _) (hb.mono (by first | omega | (simp only [szA, szS, szD, World.heap_drewN] at * <;> omega))) : Below w.heap.size w w2)
      have Z2 := hb.size
      have N2 : w1.heap.size + 2 ≤ w2.heap.size := (by first | with_reducible exact Z2 | (simp only [szA, szS, szD] at Z2; omega))
      clear Z2
      have Xa_2 : Hid (w2.heap[w1.heap.size]? = some (.cells #[.slice aa0 c1.readers.length pa0, .int .i64 c1.writer, .slice aa2 c1.q.length pa2] 30 (0, 0))) := below_at hb (heap_up (heap_at' (n := w1.heap.size) (by first | omega | (simp only [szA, szS, szD, World.heap_drewN] at * <;> omega))))
      have Xb_2 : Hid (w2.heap[w1.heap.size + 1]? = some (.cells #[.slice ab0 c2.readers.length pb0, .int .i64 c2.writer, .slice ab2 c2.q.length pb2] 30 (0, 0))) := below_at hb (heap_at' (n := w1.heap.size + 1) (by first | omega | (simp only [szA, szS, szD, World.heap_drewN] at * <;> omega)))
      have Oa_2 := Lib.hid (((Oa_1.out.alloc _).alloc _).kept hb)
      have Ob_2 := Lib.hid (((Ob_1.out.alloc _).alloc _).kept hb)
      clear hb
      obtain ⟨ca2_0, ca2_1, ca2_2, fa2_0, fa2_1, fa2_2⟩ := box3 Xa_2.out; have la2 := heap_lt Xa_2.out
      obtain ⟨cb2_0, cb2_1, cb2_2, fb2_0, fb2_1, fb2_2⟩ := box3 Xb_2.out; have lb2 := heap_lt Xb_2.out
      have S2 : w.heap.size ≤ w2.heap.size := (by omega)
      go_wp2_with (fail)
      obtain ⟨hi_a, HI_a⟩ : ∃ hi, LockOwn w.heap.size hi w2 (.agg #[.slice aa0 c1.readers.length pa0, .int .i64 c1.writer, .slice aa2 c1.q.length pa2]) c1 := ⟨_, Oa_2.out⟩
      obtain ⟨hi_b, HI_b⟩ : ∃ hi, LockOwn w.heap.size hi w2 (.agg #[.slice ab0 c2.readers.length pb0, .int .i64 c2.writer, .slice ab2 c2.q.length pb2]) c2 := ⟨_, Ob_2.out⟩
      have hN0 : w2.heap.size ≤ w2.heap.size := (by first | omega | (simp only [szA, szS, szD, World.heap_drewN] at * <;> omega))
      refine wp_region_L [⟨0, false, [], fun _ v _ => v = .bool false⟩, ⟨1, false, [], fun _ v _ => v = .agg #[.slice aa0 c1.readers.length pa0, .int .i64 c1.writer, .slice aa2 c1.q.length pa2]⟩, ⟨2, false, [], fun _ v _ => v = .agg #[.slice ab0 c2.readers.length pb0, .int .i64 c2.writer, .slice ab2 c2.q.length pb2]⟩, ⟨3, false, [1, 2], fun _ v _ => v = .bool false⟩, ⟨4, false, [0, 1, 2, 3], fun _ v _ => v = .bool true⟩, ⟨5, false, [0, 1, 2, 3, 4], fun _ v _ => v = .bool true⟩, ⟨6, false, [0, 1, 2, 3, 4, 5], fun _ v _ => v = .bool false⟩, ⟨7, false, [0, 1, 2, 3, 4, 5], fun _ v _ => v = .agg #[.slice ab0 c2.readers.length pb0, .int .i64 c2.writer, .slice ab2 c2.q.length pb2]⟩, ⟨8, false, [0, 1, 2, 3, 4, 5], fun _ v _ => v = .agg #[.slice aa0 c1.readers.length pa0, .int .i64 c1.writer, .slice aa2 c1.q.length pa2]⟩, ⟨9, false, [0, 1, 2, 3, 4, 5, 7, 8], fun _ v _ => v = .bool false⟩, ⟨10, false, [0, 1, 2, 3, 4, 5, 6, 7, 8, 9], fun _ v _ => v = .bool true⟩, ⟨11, false, [0, 1, 2, 3, 4, 5, 6, 7, 8, 9, 10], fun _ v _ => v = .bool true⟩, ⟨12, false, [0, 1, 2, 3, 4, 5, 6, 7, 8, 9, 10, 11], fun _ v _ => v = .bool true⟩, ⟨13, false, [0, 1, 2, 3, 4, 5, 6, 7, 8, 9, 10, 11, 12], fun _ v _ => v = .agg #[.slice aa0 c1.readers.length pa0, .int .i64 c1.writer, .slice aa2 c1.q.length pa2]⟩, ⟨14, false, [0, 1, 2, 3, 4, 5, 6, 7, 8, 9, 10, 11, 12], fun _ v _ => v = .agg #[.slice aa0 c1.readers.length pa0, .int .i64 c1.writer, .slice aa2 c1.q.length pa2]⟩, ⟨15, false, [0, 1, 2, 3, 4, 5, 6, 7, 8, 9, 10, 11, 12, 13, 14], fun _ v _ => v = .bool true⟩, ⟨16, false, [0, 1, 2, 3, 4, 5, 6, 7, 8, 9, 10, 11, 12, 13, 14, 15], fun _ v _ => v = .bool true⟩, ⟨17, false, [0, 1, 2, 3, 4, 5, 6, 7, 8, 9, 10, 11, 12, 13, 14, 15, 16], fun _ v _ => v = .bool true⟩, ⟨18, false, [0, 1, 2, 3, 4, 5, 6, 7, 8, 9, 10, 11, 12, 13, 14, 15, 16, 17], fun _ v _ => v = .bool false⟩, ⟨19, false, [0, 1, 2, 3, 4, 5, 6, 7, 8, 9, 10, 11, 12, 13, 14, 15, 16, 17, 18], fun _ v _ => v = .bool true⟩, ⟨20, false, [0, 1, 2, 3, 4, 5, 6, 7, 8, 9, 10, 11, 12, 13, 14, 15, 16, 17, 18, 19], fun _ v _ => v = .bool true⟩, ⟨21, false, [0, 1, 2, 3, 4, 5, 6, 7, 8, 9, 10, 11, 12, 13, 14, 15, 16, 17, 18, 19, 20], fun _ v _ => v = undef⟩, ⟨22, false, [0, 1, 2, 3, 4, 5, 6, 7, 8, 9, 10, 11, 12, 13, 14, 15, 16, 17, 18, 19, 20], fun _ v _ => v = undef⟩, ⟨23, false, [0, 1, 2, 3, 4, 5, 6, 7, 8, 9, 10, 11, 12, 13, 14, 15, 16, 17, 18, 19, 20], fun _ v _ => v = undef⟩, ⟨24, false, [0, 1, 2, 3, 4, 5, 6, 7, 8, 9, 10, 11, 12, 13, 14, 15, 16, 17, 18, 19, 20], fun _ v _ => v = undef⟩, ⟨25, false, [0, 1, 2, 3, 4, 5, 6, 7, 8, 9, 10, 11, 12, 13, 14, 15, 16, 17, 18, 19, 20], fun _ v _ => v = undef⟩, ⟨26, false, [0, 1, 2, 3, 4, 5, 6, 7, 8, 9, 10, 11, 12, 13, 14, 15, 16, 17, 18, 19, 20, 25], fun _ v _ => v = .bool true⟩, ⟨27, false, [0, 1, 2, 3, 4, 5, 6, 7, 8, 9, 10, 11, 12, 13, 14, 15, 16, 17, 18, 19, 20, 25, 26], fun _ v _ => v = .bool true⟩, ⟨28, false, [0, 1, 2, 3, 4, 5, 6, 7, 8, 9, 10, 11, 12, 13, 14, 15, 16, 17, 18, 19, 20, 25, 26, 27], fun _ v _ => v = .bool true⟩] [(0, some 17), (1, some 18), (2, some 19), (3, some 20), (4, some 21), (5, some 22), (6, some 23), (7, some 24), (8, some 25), (9, some 26), (10, some 27), (11, some 28), (12, some 29), (13, some 30), (14, some 31), (15, some 32), (16, some 33), (17, some 34), (18, some 35), (19, some 36), (20, some 37), (21, some 38), (22, some 39), (23, some 40), (24, some 41), (25, some 42), (26, some 43), (27, some 44), (28, some 2)] (fun _ w' => Below w.heap.size w w' ∧ w2.heap.size ≤ w'.heap.size ∧ w'.heap[w1.heap.size]? = some (.cells #[.slice aa0 c1.readers.length pa0, .int .i64 c1.writer, .slice aa2 c1.q.length pa2] 30 (0, 0)) ∧ w'.heap[w1.heap.size + 1]? = some (.cells #[.slice ab0 c2.readers.length pb0, .int .i64 c2.writer, .slice ab2 c2.q.length pb2] 30 (0, 0)) ∧ LockOwn w.heap.size hi_a w' (.agg #[.slice aa0 c1.readers.length pa0, .int .i64 c1.writer, .slice aa2 c1.q.length pa2]) c1 ∧ LockOwn w.heap.size hi_b w' (.agg #[.slice ab0 c2.readers.length pb0, .int .i64 c2.writer, .slice ab2 c2.q.length pb2]) c2) (fun _ _ _ => True) (by kernel_rfl) (by rfl) (by kernel_rfl) (by kernel_rfl) ⟨(B2.out).drew, hN0, (heap_drew Xa_2.out), (heap_drew Xb_2.out), HI_a, HI_b⟩ (GoalsL.cons ?_ (GoalsL.cons ?_ (GoalsL.cons ?_ (GoalsL.cons ?_ (GoalsL.cons ?_ (GoalsL.cons ?_ (GoalsL.cons ?_ (GoalsL.cons ?_ (GoalsL.cons ?_ (GoalsL.cons ?_ (GoalsL.cons ?_ (GoalsL.cons ?_ (GoalsL.cons ?_ (GoalsL.cons ?_ (GoalsL.cons ?_ (GoalsL.cons ?_ (GoalsL.cons ?_ (GoalsL.cons ?_ (GoalsL.cons ?_ (GoalsL.cons ?_ (GoalsL.cons ?_ (GoalsL.cons ?_ (GoalsL.cons ?_ (GoalsL.cons ?_ (GoalsL.cons ?_ (GoalsL.cons ?_ (GoalsL.cons ?_ (GoalsL.cons ?_ (GoalsL.cons ?_ (GoalsL.nil)))))))))))))))))))))))))))))) ?_
      · refine GoalL.mk (by rfl) ⟨fun _ _ _ _ _ h => h, fun _ _ _ _ _ _ h => h⟩ ?_
        intro f u wq hf hC hD K hK
        have hA := hC.1; have hN := hC.2.1; have x_a := hC.2.2.1; have x_b := hC.2.2.2.1; have o_a := hC.2.2.2.2.1; have o_b := hC.2.2.2.2.2; clear hC
        clear hD
        simp only [putL, Act.put, List.setIfInBounds_toArray, List.set_cons_zero, List.set_cons_succ] at hK ⊢
        refine Closed.mk ?_
        go_simp
        exact hK.out _ _ ⟨hA, hN, x_a, x_b, o_a, o_b⟩ trivial rfl
      · refine GoalL.mk (by rfl) ⟨fun _ _ _ _ _ h => h, fun _ _ _ _ _ _ h => h⟩ ?_
        intro f u wq hf hC hD K hK
        have hA := hC.1; have hN := hC.2.1; have x_a := hC.2.2.1; have x_b := hC.2.2.2.1; have o_a := hC.2.2.2.2.1; have o_b := hC.2.2.2.2.2; clear hC
        clear hD
        simp only [putL, Act.put, List.setIfInBounds_toArray, List.set_cons_zero, List.set_cons_succ] at hK ⊢
        obtain ⟨ka_0, ka_1, ka_2, fa_0, fa_1, fa_2⟩ := box3 x_a
        refine Closed.mk ?_
        go_simp
        exact hK.out _ _ ⟨hA, hN, x_a, x_b, o_a, o_b⟩ trivial rfl
      · refine GoalL.mk (by rfl) ⟨fun _ _ _ _ _ h => h, fun _ _ _ _ _ _ h => h⟩ ?_
        intro f u wq hf hC hD K hK
        have hA := hC.1; have hN := hC.2.1; have x_a := hC.2.2.1; have x_b := hC.2.2.2.1; have o_a := hC.2.2.2.2.1; have o_b := hC.2.2.2.2.2; clear hC
        clear hD
        simp only [putL, Act.put, List.setIfInBounds_toArray, List.set_cons_zero, List.set_cons_succ] at hK ⊢
        obtain ⟨kb_0, kb_1, kb_2, fb_0, fb_1, fb_2⟩ := box3 x_b
        refine Closed.mk ?_
        go_simp
        exact hK.out _ _ ⟨hA, hN, x_a, x_b, o_a, o_b⟩ trivial rfl
      · refine GoalL.mk (by rfl) ⟨fun _ _ _ _ _ h => h, fun _ _ _ _ _ _ h => h⟩ ?_
        intro f u wq hf hC hD K hK
        have hA := hC.1; have hN := hC.2.1; have x_a := hC.2.2.1; have x_b := hC.2.2.2.1; have o_a := hC.2.2.2.2.1; have o_b := hC.2.2.2.2.2; clear hC
        have d1 := hD.1; have d2 := hD.2.1; clear hD
        have e1 : u 1 = .agg #[.slice aa0 c1.readers.length pa0, .int .i64 c1.writer, .slice aa2 c1.q.length pa2] := d1; clear d1
        have e2 : u 2 = .agg #[.slice ab0 c2.readers.length pb0, .int .i64 c2.writer, .slice ab2 c2.q.length pb2] := d2; clear d2
        simp only [putL, Act.put, List.setIfInBounds_toArray, List.set_cons_zero, List.set_cons_succ, e1, e2] at hK ⊢
        refine Closed.mk ?_
        go_simp
        refine (sLockSameO _ _ c1 c2 _ (o_a.row) (o_b.row)).mono ?_
        rw [decide_eq_false HD.out]
        rintro e wr ⟨rfl, hb⟩
        exact hK.out _ _ ⟨Below.trans hA (hb.mono hA.size), Nat.le_trans hN hb.size, (below_at hb x_a), (below_at hb x_b), (o_a.kept hb), (o_b.kept hb)⟩ trivial rfl
      · refine GoalL.mk (by rfl) ⟨fun _ _ _ _ _ h => h, fun _ _ _ _ _ _ h => h⟩ ?_
        intro f u wq hf hC hD K hK
        have hA := hC.1; have hN := hC.2.1; have x_a := hC.2.2.1; have x_b := hC.2.2.2.1; have o_a := hC.2.2.2.2.1; have o_b := hC.2.2.2.2.2; clear hC
        have d0 := hD.1; have d1 := hD.2.1; have d2 := hD.2.2.1; have d3 := hD.2.2.2.1; clear hD
        have e0 : u 0 = .bool false := d0; clear d0
        have e1 : u 1 = .agg #[.slice aa0 c1.readers.length pa0, .int .i64 c1.writer, .slice aa2 c1.q.length pa2] := d1; clear d1
        have e2 : u 2 = .agg #[.slice ab0 c2.readers.length pb0, .int .i64 c2.writer, .slice ab2 c2.q.length pb2] := d2; clear d2
        have e3 : u 3 = .bool false := d3; clear d3
        simp only [putL, Act.put, List.setIfInBounds_toArray, List.set_cons_zero, List.set_cons_succ, e0, e1, e2, e3] at hK ⊢
        refine Closed.mk ?_
        go_simp
        exact hK.out _ _ ⟨hA, hN, x_a, x_b, o_a, o_b⟩ trivial rfl
      · refine GoalL.mk (by rfl) ⟨fun _ _ _ _ _ h => h, fun _ _ _ _ _ _ h => h⟩ ?_
        intro f u wq hf hC hD K hK
        have hA := hC.1; have hN := hC.2.1; have x_a := hC.2.2.1; have x_b := hC.2.2.2.1; have o_a := hC.2.2.2.2.1; have o_b := hC.2.2.2.2.2; clear hC
        have d0 := hD.1; have d1 := hD.2.1; have d2 := hD.2.2.1; have d3 := hD.2.2.2.1; have d4 := hD.2.2.2.2.1; clear hD
        have e0 : u 0 = .bool false := d0; clear d0
        have e1 : u 1 = .agg #[.slice aa0 c1.readers.length pa0, .int .i64 c1.writer, .slice aa2 c1.q.length pa2] := d1; clear d1
        have e2 : u 2 = .agg #[.slice ab0 c2.readers.length pb0, .int .i64 c2.writer, .slice ab2 c2.q.length pb2] := d2; clear d2
        have e3 : u 3 = .bool false := d3; clear d3
        have e4 : u 4 = .bool true := d4; clear d4
        simp only [putL, Act.put, List.setIfInBounds_toArray, List.set_cons_zero, List.set_cons_succ, e0, e1, e2, e3, e4] at hK ⊢
        refine Closed.mk ?_
        go_simp
        exact hK.out _ _ ⟨hA, hN, x_a, x_b, o_a, o_b⟩ trivial rfl
      · refine GoalL.mk (by rfl) ⟨fun _ _ _ _ _ h => h, fun _ _ _ _ _ _ h => h⟩ ?_
        intro f u wq hf hC hD K hK
        have hA := hC.1; have hN := hC.2.1; have x_a := hC.2.2.1; have x_b := hC.2.2.2.1; have o_a := hC.2.2.2.2.1; have o_b := hC.2.2.2.2.2; clear hC
        have d0 := hD.1; have d1 := hD.2.1; have d2 := hD.2.2.1; have d3 := hD.2.2.2.1; have d4 := hD.2.2.2.2.1; have d5 := hD.2.2.2.2.2.1; clear hD
        have e0 : u 0 = .bool false := d0; clear d0
        have e1 : u 1 = .agg #[.slice aa0 c1.readers.length pa0, .int .i64 c1.writer, .slice aa2 c1.q.length pa2] := d1; clear d1
        have e2 : u 2 = .agg #[.slice ab0 c2.readers.length pb0, .int .i64 c2.writer, .slice ab2 c2.q.length pb2] := d2; clear d2
        have e3 : u 3 = .bool false := d3; clear d3
        have e4 : u 4 = .bool true := d4; clear d4
        have e5 : u 5 = .bool true := d5; clear d5
        simp only [putL, Act.put, List.setIfInBounds_toArray, List.set_cons_zero, List.set_cons_succ, e0, e1, e2, e3, e4, e5] at hK ⊢
        refine Closed.mk ?_
        go_simp
        exact hK.out _ _ ⟨hA, hN, x_a, x_b, o_a, o_b⟩ trivial rfl
      · refine GoalL.mk (by rfl) ⟨fun _ _ _ _ _ h => h, fun _ _ _ _ _ _ h => h⟩ ?_
        intro f u wq hf hC hD K hK
        have hA := hC.1; have hN := hC.2.1; have x_a := hC.2.2.1; have x_b := hC.2.2.2.1; have o_a := hC.2.2.2.2.1; have o_b := hC.2.2.2.2.2; clear hC
        have d0 := hD.1; have d1 := hD.2.1; have d2 := hD.2.2.1; have d3 := hD.2.2.2.1; have d4 := hD.2.2.2.2.1; have d5 := hD.2.2.2.2.2.1; clear hD
        have e0 : u 0 = .bool false := d0; clear d0
        have e1 : u 1 = .agg #[.slice aa0 c1.readers.length pa0, .int .i64 c1.writer, .slice aa2 c1.q.length pa2] := d1; clear d1
        have e2 : u 2 = .agg #[.slice ab0 c2.readers.length pb0, .int .i64 c2.writer, .slice ab2 c2.q.length pb2] := d2; clear d2
        have e3 : u 3 = .bool false := d3; clear d3
        have e4 : u 4 = .bool true := d4; clear d4
        have e5 : u 5 = .bool true := d5; clear d5
        simp only [putL, Act.put, List.setIfInBounds_toArray, List.set_cons_zero, List.set_cons_succ, e0, e1, e2, e3, e4, e5] at hK ⊢
        obtain ⟨kb_0, kb_1, kb_2, fb_0, fb_1, fb_2⟩ := box3 x_b
        refine Closed.mk ?_
        go_simp
        exact hK.out _ _ ⟨hA, hN, x_a, x_b, o_a, o_b⟩ trivial rfl
      · refine GoalL.mk (by rfl) ⟨fun _ _ _ _ _ h => h, fun _ _ _ _ _ _ h => h⟩ ?_
        intro f u wq hf hC hD K hK
        have hA := hC.1; have hN := hC.2.1; have x_a := hC.2.2.1; have x_b := hC.2.2.2.1; have o_a := hC.2.2.2.2.1; have o_b := hC.2.2.2.2.2; clear hC
        have d0 := hD.1; have d1 := hD.2.1; have d2 := hD.2.2.1; have d3 := hD.2.2.2.1; have d4 := hD.2.2.2.2.1; have d5 := hD.2.2.2.2.2.1; clear hD
        have e0 : u 0 = .bool false := d0; clear d0
        have e1 : u 1 = .agg #[.slice aa0 c1.readers.length pa0, .int .i64 c1.writer, .slice aa2 c1.q.length pa2] := d1; clear d1
        have e2 : u 2 = .agg #[.slice ab0 c2.readers.length pb0, .int .i64 c2.writer, .slice ab2 c2.q.length pb2] := d2; clear d2
        have e3 : u 3 = .bool false := d3; clear d3
        have e4 : u 4 = .bool true := d4; clear d4
        have e5 : u 5 = .bool true := d5; clear d5
        simp only [putL, Act.put, List.setIfInBounds_toArray, List.set_cons_zero, List.set_cons_succ, e0, e1, e2, e3, e4, e5] at hK ⊢
        obtain ⟨ka_0, ka_1, ka_2, fa_0, fa_1, fa_2⟩ := box3 x_a
        refine Closed.mk ?_
        go_simp
        exact hK.out _ _ ⟨hA, hN, x_a, x_b, o_a, o_b⟩ trivial rfl
      · refine GoalL.mk (by rfl) ⟨fun _ _ _ _ _ h => h, fun _ _ _ _ _ _ h => h⟩ ?_
        intro f u wq hf hC hD K hK
        have hA := hC.1; have hN := hC.2.1; have x_a := hC.2.2.1; have x_b := hC.2.2.2.1; have o_a := hC.2.2.2.2.1; have o_b := hC.2.2.2.2.2; clear hC
        have d0 := hD.1; have d1 := hD.2.1; have d2 := hD.2.2.1; have d3 := hD.2.2.2.1; have d4 := hD.2.2.2.2.1; have d5 := hD.2.2.2.2.2.1; have d7 := hD.2.2.2.2.2.2.1; have d8 := hD.2.2.2.2.2.2.2.1; clear hD
        have e0 : u 0 = .bool false := d0; clear d0
        have e1 : u 1 = .agg #[.slice aa0 c1.readers.length pa0, .int .i64 c1.writer, .slice aa2 c1.q.length pa2] := d1; clear d1
        have e2 : u 2 = .agg #[.slice ab0 c2.readers.length pb0, .int .i64 c2.writer, .slice ab2 c2.q.length pb2] := d2; clear d2
        have e3 : u 3 = .bool false := d3; clear d3
        have e4 : u 4 = .bool true := d4; clear d4
        have e5 : u 5 = .bool true := d5; clear d5
        have e7 : u 7 = .agg #[.slice ab0 c2.readers.length pb0, .int .i64 c2.writer, .slice ab2 c2.q.length pb2] := d7; clear d7
        have e8 : u 8 = .agg #[.slice aa0 c1.readers.length pa0, .int .i64 c1.writer, .slice aa2 c1.q.length pa2] := d8; clear d8
        simp only [putL, Act.put, List.setIfInBounds_toArray, List.set_cons_zero, List.set_cons_succ, e0, e1, e2, e3, e4, e5, e7, e8] at hK ⊢
        refine Closed.mk ?_
        go_simp
        refine (LockSameO _ _ c2 c1 _ (o_b.row) (o_a.row)).mono ?_
        rw [decide_eq_false HS.out]
        rintro e wr ⟨rfl, hb⟩
        exact hK.out _ _ ⟨Below.trans hA (hb.mono hA.size), Nat.le_trans hN hb.size, (below_at hb x_a), (below_at hb x_b), (o_a.kept hb), (o_b.kept hb)⟩ trivial rfl
      · refine GoalL.mk (by rfl) ⟨fun _ _ _ _ _ h => h, fun _ _ _ _ _ _ h => h⟩ ?_
        intro f u wq hf hC hD K hK
        have hA := hC.1; have hN := hC.2.1; have x_a := hC.2.2.1; have x_b := hC.2.2.2.1; have o_a := hC.2.2.2.2.1; have o_b := hC.2.2.2.2.2; clear hC
        have d0 := hD.1; have d1 := hD.2.1; have d2 := hD.2.2.1; have d3 := hD.2.2.2.1; have d4 := hD.2.2.2.2.1; have d5 := hD.2.2.2.2.2.1; have d6 := hD.2.2.2.2.2.2.1; have d7 := hD.2.2.2.2.2.2.2.1; have d8 := hD.2.2.2.2.2.2.2.2.1; have d9 := hD.2.2.2.2.2.2.2.2.2.1; clear hD
        have e0 : u 0 = .bool false := d0; clear d0
        have e1 : u 1 = .agg #[.slice aa0 c1.readers.length pa0, .int .i64 c1.writer, .slice aa2 c1.q.length pa2] := d1; clear d1
        have e2 : u 2 = .agg #[.slice ab0 c2.readers.length pb0, .int .i64 c2.writer, .slice ab2 c2.q.length pb2] := d2; clear d2
        have e3 : u 3 = .bool false := d3; clear d3
        have e4 : u 4 = .bool true := d4; clear d4
        have e5 : u 5 = .bool true := d5; clear d5
        have e6 : u 6 = .bool false := d6; clear d6
        have e7 : u 7 = .agg #[.slice ab0 c2.readers.length pb0, .int .i64 c2.writer, .slice ab2 c2.q.length pb2] := d7; clear d7
        have e8 : u 8 = .agg #[.slice aa0 c1.readers.length pa0, .int .i64 c1.writer, .slice aa2 c1.q.length pa2] := d8; clear d8
        have e9 : u 9 = .bool false := d9; clear d9
        simp only [putL, Act.put, List.setIfInBounds_toArray, List.set_cons_zero, List.set_cons_succ, e0, e1, e2, e3, e4, e5, e6, e7, e8, e9] at hK ⊢
        refine Closed.mk ?_
        go_simp
        exact hK.out _ _ ⟨hA, hN, x_a, x_b, o_a, o_b⟩ trivial rfl
      · refine GoalL.mk (by rfl) ⟨fun _ _ _ _ _ h => h, fun _ _ _ _ _ _ h => h⟩ ?_
        intro f u wq hf hC hD K hK
        have hA := hC.1; have hN := hC.2.1; have x_a := hC.2.2.1; have x_b := hC.2.2.2.1; have o_a := hC.2.2.2.2.1; have o_b := hC.2.2.2.2.2; clear hC
        have d0 := hD.1; have d1 := hD.2.1; have d2 := hD.2.2.1; have d3 := hD.2.2.2.1; have d4 := hD.2.2.2.2.1; have d5 := hD.2.2.2.2.2.1; have d6 := hD.2.2.2.2.2.2.1; have d7 := hD.2.2.2.2.2.2.2.1; have d8 := hD.2.2.2.2.2.2.2.2.1; have d9 := hD.2.2.2.2.2.2.2.2.2.1; have d10 := hD.2.2.2.2.2.2.2.2.2.2.1; clear hD
        have e0 : u 0 = .bool false := d0; clear d0
        have e1 : u 1 = .agg #[.slice aa0 c1.readers.length pa0, .int .i64 c1.writer, .slice aa2 c1.q.length pa2] := d1; clear d1
        have e2 : u 2 = .agg #[.slice ab0 c2.readers.length pb0, .int .i64 c2.writer, .slice ab2 c2.q.length pb2] := d2; clear d2
        have e3 : u 3 = .bool false := d3; clear d3
        have e4 : u 4 = .bool true := d4; clear d4
        have e5 : u 5 = .bool true := d5; clear d5
        have e6 : u 6 = .bool false := d6; clear d6
        have e7 : u 7 = .agg #[.slice ab0 c2.readers.length pb0, .int .i64 c2.writer, .slice ab2 c2.q.length pb2] := d7; clear d7
        have e8 : u 8 = .agg #[.slice aa0 c1.readers.length pa0, .int .i64 c1.writer, .slice aa2 c1.q.length pa2] := d8; clear d8
        have e9 : u 9 = .bool false := d9; clear d9
        have e10 : u 10 = .bool true := d10; clear d10
        simp only [putL, Act.put, List.setIfInBounds_toArray, List.set_cons_zero, List.set_cons_succ, e0, e1, e2, e3, e4, e5, e6, e7, e8, e9, e10] at hK ⊢
        refine Closed.mk ?_
        go_simp
        exact hK.out _ _ ⟨hA, hN, x_a, x_b, o_a, o_b⟩ trivial rfl
      · refine GoalL.mk (by rfl) ⟨fun _ _ _ _ _ h => h, fun _ _ _ _ _ _ h => h⟩ ?_
        intro f u wq hf hC hD K hK
        have hA := hC.1; have hN := hC.2.1; have x_a := hC.2.2.1; have x_b := hC.2.2.2.1; have o_a := hC.2.2.2.2.1; have o_b := hC.2.2.2.2.2; clear hC
        have d0 := hD.1; have d1 := hD.2.1; have d2 := hD.2.2.1; have d3 := hD.2.2.2.1; have d4 := hD.2.2.2.2.1; have d5 := hD.2.2.2.2.2.1; have d6 := hD.2.2.2.2.2.2.1; have d7 := hD.2.2.2.2.2.2.2.1; have d8 := hD.2.2.2.2.2.2.2.2.1; have d9 := hD.2.2.2.2.2.2.2.2.2.1; have d10 := hD.2.2.2.2.2.2.2.2.2.2.1; have d11 := hD.2.2.2.2.2.2.2.2.2.2.2.1; clear hD
        have e0 : u 0 = .bool false := d0; clear d0
        have e1 : u 1 = .agg #[.slice aa0 c1.readers.length pa0, .int .i64 c1.writer, .slice aa2 c1.q.length pa2] := d1; clear d1
        have e2 : u 2 = .agg #[.slice ab0 c2.readers.length pb0, .int .i64 c2.writer, .slice ab2 c2.q.length pb2] := d2; clear d2
        have e3 : u 3 = .bool false := d3; clear d3
        have e4 : u 4 = .bool true := d4; clear d4
        have e5 : u 5 = .bool true := d5; clear d5
        have e6 : u 6 = .bool false := d6; clear d6
        have e7 : u 7 = .agg #[.slice ab0 c2.readers.length pb0, .int .i64 c2.writer, .slice ab2 c2.q.length pb2] := d7; clear d7
        have e8 : u 8 = .agg #[.slice aa0 c1.readers.length pa0, .int .i64 c1.writer, .slice aa2 c1.q.length pa2] := d8; clear d8
        have e9 : u 9 = .bool false := d9; clear d9
        have e10 : u 10 = .bool true := d10; clear d10
        have e11 : u 11 = .bool true := d11; clear d11
        simp only [putL, Act.put, List.setIfInBounds_toArray, List.set_cons_zero, List.set_cons_succ, e0, e1, e2, e3, e4, e5, e6, e7, e8, e9, e10, e11] at hK ⊢
        refine Closed.mk ?_
        go_simp
        exact hK.out _ _ ⟨hA, hN, x_a, x_b, o_a, o_b⟩ trivial rfl
      · refine GoalL.mk (by rfl) ⟨fun _ _ _ _ _ h => h, fun _ _ _ _ _ _ h => h⟩ ?_
        intro f u wq hf hC hD K hK
        have hA := hC.1; have hN := hC.2.1; have x_a := hC.2.2.1; have x_b := hC.2.2.2.1; have o_a := hC.2.2.2.2.1; have o_b := hC.2.2.2.2.2; clear hC
        have d0 := hD.1; have d1 := hD.2.1; have d2 := hD.2.2.1; have d3 := hD.2.2.2.1; have d4 := hD.2.2.2.2.1; have d5 := hD.2.2.2.2.2.1; have d6 := hD.2.2.2.2.2.2.1; have d7 := hD.2.2.2.2.2.2.2.1; have d8 := hD.2.2.2.2.2.2.2.2.1; have d9 := hD.2.2.2.2.2.2.2.2.2.1; have d10 := hD.2.2.2.2.2.2.2.2.2.2.1; have d11 := hD.2.2.2.2.2.2.2.2.2.2.2.1; have d12 := hD.2.2.2.2.2.2.2.2.2.2.2.2.1; clear hD
        have e0 : u 0 = .bool false := d0; clear d0
        have e1 : u 1 = .agg #[.slice aa0 c1.readers.length pa0, .int .i64 c1.writer, .slice aa2 c1.q.length pa2] := d1; clear d1
        have e2 : u 2 = .agg #[.slice ab0 c2.readers.length pb0, .int .i64 c2.writer, .slice ab2 c2.q.length pb2] := d2; clear d2
        have e3 : u 3 = .bool false := d3; clear d3
        have e4 : u 4 = .bool true := d4; clear d4
        have e5 : u 5 = .bool true := d5; clear d5
        have e6 : u 6 = .bool false := d6; clear d6
        have e7 : u 7 = .agg #[.slice ab0 c2.readers.length pb0, .int .i64 c2.writer, .slice ab2 c2.q.length pb2] := d7; clear d7
        have e8 : u 8 = .agg #[.slice aa0 c1.readers.length pa0, .int .i64 c1.writer, .slice aa2 c1.q.length pa2] := d8; clear d8
        have e9 : u 9 = .bool false := d9; clear d9
        have e10 : u 10 = .bool true := d10; clear d10
        have e11 : u 11 = .bool true := d11; clear d11
        have e12 : u 12 = .bool true := d12; clear d12
        simp only [putL, Act.put, List.setIfInBounds_toArray, List.set_cons_zero, List.set_cons_succ, e0, e1, e2, e3, e4, e5, e6, e7, e8, e9, e10, e11, e12] at hK ⊢
        obtain ⟨ka_0, ka_1, ka_2, fa_0, fa_1, fa_2⟩ := box3 x_a
        refine Closed.mk ?_
        go_simp
        exact hK.out _ _ ⟨hA, hN, x_a, x_b, o_a, o_b⟩ trivial rfl
      · refine GoalL.mk (by rfl) ⟨fun _ _ _ _ _ h => h, fun _ _ _ _ _ _ h => h⟩ ?_
        intro f u wq hf hC hD K hK
        have hA := hC.1; have hN := hC.2.1; have x_a := hC.2.2.1; have x_b := hC.2.2.2.1; have o_a := hC.2.2.2.2.1; have o_b := hC.2.2.2.2.2; clear hC
        have d0 := hD.1; have d1 := hD.2.1; have d2 := hD.2.2.1; have d3 := hD.2.2.2.1; have d4 := hD.2.2.2.2.1; have d5 := hD.2.2.2.2.2.1; have d6 := hD.2.2.2.2.2.2.1; have d7 := hD.2.2.2.2.2.2.2.1; have d8 := hD.2.2.2.2.2.2.2.2.1; have d9 := hD.2.2.2.2.2.2.2.2.2.1; have d10 := hD.2.2.2.2.2.2.2.2.2.2.1; have d11 := hD.2.2.2.2.2.2.2.2.2.2.2.1; have d12 := hD.2.2.2.2.2.2.2.2.2.2.2.2.1; clear hD
        have e0 : u 0 = .bool false := d0; clear d0
        have e1 : u 1 = .agg #[.slice aa0 c1.readers.length pa0, .int .i64 c1.writer, .slice aa2 c1.q.length pa2] := d1; clear d1
        have e2 : u 2 = .agg #[.slice ab0 c2.readers.length pb0, .int .i64 c2.writer, .slice ab2 c2.q.length pb2] := d2; clear d2
        have e3 : u 3 = .bool false := d3; clear d3
        have e4 : u 4 = .bool true := d4; clear d4
        have e5 : u 5 = .bool true := d5; clear d5
        have e6 : u 6 = .bool false := d6; clear d6
        have e7 : u 7 = .agg #[.slice ab0 c2.readers.length pb0, .int .i64 c2.writer, .slice ab2 c2.q.length pb2] := d7; clear d7
        have e8 : u 8 = .agg #[.slice aa0 c1.readers.length pa0, .int .i64 c1.writer, .slice aa2 c1.q.length pa2] := d8; clear d8
        have e9 : u 9 = .bool false := d9; clear d9
        have e10 : u 10 = .bool true := d10; clear d10
        have e11 : u 11 = .bool true := d11; clear d11
        have e12 : u 12 = .bool true := d12; clear d12
        simp only [putL, Act.put, List.setIfInBounds_toArray, List.set_cons_zero, List.set_cons_succ, e0, e1, e2, e3, e4, e5, e6, e7, e8, e9, e10, e11, e12] at hK ⊢
        obtain ⟨ka_0, ka_1, ka_2, fa_0, fa_1, fa_2⟩ := box3 x_a
        refine Closed.mk ?_
        go_simp
        exact hK.out _ _ ⟨hA, hN, x_a, x_b, o_a, o_b⟩ trivial rfl
      · refine GoalL.mk (by rfl) ⟨fun _ _ _ _ _ h => h, fun _ _ _ _ _ _ h => h⟩ ?_
        intro f u wq hf hC hD K hK
        have hA := hC.1; have hN := hC.2.1; have x_a := hC.2.2.1; have x_b := hC.2.2.2.1; have o_a := hC.2.2.2.2.1; have o_b := hC.2.2.2.2.2; clear hC
        have d0 := hD.1; have d1 := hD.2.1; have d2 := hD.2.2.1; have d3 := hD.2.2.2.1; have d4 := hD.2.2.2.2.1; have d5 := hD.2.2.2.2.2.1; have d6 := hD.2.2.2.2.2.2.1; have d7 := hD.2.2.2.2.2.2.2.1; have d8 := hD.2.2.2.2.2.2.2.2.1; have d9 := hD.2.2.2.2.2.2.2.2.2.1; have d10 := hD.2.2.2.2.2.2.2.2.2.2.1; have d11 := hD.2.2.2.2.2.2.2.2.2.2.2.1; have d12 := hD.2.2.2.2.2.2.2.2.2.2.2.2.1; have d13 := hD.2.2.2.2.2.2.2.2.2.2.2.2.2.1; have d14 := hD.2.2.2.2.2.2.2.2.2.2.2.2.2.2.1; clear hD
        have e0 : u 0 = .bool false := d0; clear d0
        have e1 : u 1 = .agg #[.slice aa0 c1.readers.length pa0, .int .i64 c1.writer, .slice aa2 c1.q.length pa2] := d1; clear d1
        have e2 : u 2 = .agg #[.slice ab0 c2.readers.length pb0, .int .i64 c2.writer, .slice ab2 c2.q.length pb2] := d2; clear d2
        have e3 : u 3 = .bool false := d3; clear d3
        have e4 : u 4 = .bool true := d4; clear d4
        have e5 : u 5 = .bool true := d5; clear d5
        have e6 : u 6 = .bool false := d6; clear d6
        have e7 : u 7 = .agg #[.slice ab0 c2.readers.length pb0, .int .i64 c2.writer, .slice ab2 c2.q.length pb2] := d7; clear d7
        have e8 : u 8 = .agg #[.slice aa0 c1.readers.length pa0, .int .i64 c1.writer, .slice aa2 c1.q.length pa2] := d8; clear d8
        have e9 : u 9 = .bool false := d9; clear d9
        have e10 : u 10 = .bool true := d10; clear d10
        have e11 : u 11 = .bool true := d11; clear d11
        have e12 : u 12 = .bool true := d12; clear d12
        have e13 : u 13 = .agg #[.slice aa0 c1.readers.length pa0, .int .i64 c1.writer, .slice aa2 c1.q.length pa2] := d13; clear d13
        have e14 : u 14 = .agg #[.slice aa0 c1.readers.length pa0, .int .i64 c1.writer, .slice aa2 c1.q.length pa2] := d14; clear d14
        simp only [putL, Act.put, List.setIfInBounds_toArray, List.set_cons_zero, List.set_cons_succ, e0, e1, e2, e3, e4, e5, e6, e7, e8, e9, e10, e11, e12, e13, e14] at hK ⊢
        refine Closed.mk ?_
        go_simp
        refine (LockSameO _ _ c1 c1 _ (o_a.row) (o_a.row)).mono ?_
        rw [decide_eq_true rfl]
        rintro e wr ⟨rfl, hb⟩
        exact hK.out _ _ ⟨Below.trans hA (hb.mono hA.size), Nat.le_trans hN hb.size, (below_at hb x_a), (below_at hb x_b), (o_a.kept hb), (o_b.kept hb)⟩ trivial rfl
      · refine GoalL.mk (by rfl) ⟨fun _ _ _ _ _ h => h, fun _ _ _ _ _ _ h => h⟩ ?_
        intro f u wq hf hC hD K hK
        have hA := hC.1; have hN := hC.2.1; have x_a := hC.2.2.1; have x_b := hC.2.2.2.1; have o_a := hC.2.2.2.2.1; have o_b := hC.2.2.2.2.2; clear hC
        have d0 := hD.1; have d1 := hD.2.1; have d2 := hD.2.2.1; have d3 := hD.2.2.2.1; have d4 := hD.2.2.2.2.1; have d5 := hD.2.2.2.2.2.1; have d6 := hD.2.2.2.2.2.2.1; have d7 := hD.2.2.2.2.2.2.2.1; have d8 := hD.2.2.2.2.2.2.2.2.1; have d9 := hD.2.2.2.2.2.2.2.2.2.1; have d10 := hD.2.2.2.2.2.2.2.2.2.2.1; have d11 := hD.2.2.2.2.2.2.2.2.2.2.2.1; have d12 := hD.2.2.2.2.2.2.2.2.2.2.2.2.1; have d13 := hD.2.2.2.2.2.2.2.2.2.2.2.2.2.1; have d14 := hD.2.2.2.2.2.2.2.2.2.2.2.2.2.2.1; have d15 := hD.2.2.2.2.2.2.2.2.2.2.2.2.2.2.2.1; clear hD
        have e0 : u 0 = .bool false := d0; clear d0
        have e1 : u 1 = .agg #[.slice aa0 c1.readers.length pa0, .int .i64 c1.writer, .slice aa2 c1.q.length pa2] := d1; clear d1
        have e2 : u 2 = .agg #[.slice ab0 c2.readers.length pb0, .int .i64 c2.writer, .slice ab2 c2.q.length pb2] := d2; clear d2
        have e3 : u 3 = .bool false := d3; clear d3
        have e4 : u 4 = .bool true := d4; clear d4
        have e5 : u 5 = .bool true := d5; clear d5
        have e6 : u 6 = .bool false := d6; clear d6
        have e7 : u 7 = .agg #[.slice ab0 c2.readers.length pb0, .int .i64 c2.writer, .slice ab2 c2.q.length pb2] := d7; clear d7
        have e8 : u 8 = .agg #[.slice aa0 c1.readers.length pa0, .int .i64 c1.writer, .slice aa2 c1.q.length pa2] := d8; clear d8
        have e9 : u 9 = .bool false := d9; clear d9
        have e10 : u 10 = .bool true := d10; clear d10
        have e11 : u 11 = .bool true := d11; clear d11
        have e12 : u 12 = .bool true := d12; clear d12
        have e13 : u 13 = .agg #[.slice aa0 c1.readers.length pa0, .int .i64 c1.writer, .slice aa2 c1.q.length pa2] := d13; clear d13
        have e14 : u 14 = .agg #[.slice aa0 c1.readers.length pa0, .int .i64 c1.writer, .slice aa2 c1.q.length pa2] := d14; clear d14
        have e15 : u 15 = .bool true := d15; clear d15
        simp only [putL, Act.put, List.setIfInBounds_toArray, List.set_cons_zero, List.set_cons_succ, e0, e1, e2, e3, e4, e5, e6, e7, e8, e9, e10, e11, e12, e13, e14, e15] at hK ⊢
        refine Closed.mk ?_
        go_simp
        exact hK.out _ _ ⟨hA, hN, x_a, x_b, o_a, o_b⟩ trivial rfl
      · refine GoalL.mk (by rfl) ⟨fun _ _ _ _ _ h => h, fun _ _ _ _ _ _ h => h⟩ ?_
        intro f u wq hf hC hD K hK
        have hA := hC.1; have hN := hC.2.1; have x_a := hC.2.2.1; have x_b := hC.2.2.2.1; have o_a := hC.2.2.2.2.1; have o_b := hC.2.2.2.2.2; clear hC
        have d0 := hD.1; have d1 := hD.2.1; have d2 := hD.2.2.1; have d3 := hD.2.2.2.1; have d4 := hD.2.2.2.2.1; have d5 := hD.2.2.2.2.2.1; have d6 := hD.2.2.2.2.2.2.1; have d7 := hD.2.2.2.2.2.2.2.1; have d8 := hD.2.2.2.2.2.2.2.2.1; have d9 := hD.2.2.2.2.2.2.2.2.2.1; have d10 := hD.2.2.2.2.2.2.2.2.2.2.1; have d11 := hD.2.2.2.2.2.2.2.2.2.2.2.1; have d12 := hD.2.2.2.2.2.2.2.2.2.2.2.2.1; have d13 := hD.2.2.2.2.2.2.2.2.2.2.2.2.2.1; have d14 := hD.2.2.2.2.2.2.2.2.2.2.2.2.2.2.1; have d15 := hD.2.2.2.2.2.2.2.2.2.2.2.2.2.2.2.1; have d16 := hD.2.2.2.2.2.2.2.2.2.2.2.2.2.2.2.2.1; clear hD
        have e0 : u 0 = .bool false := d0; clear d0
        have e1 : u 1 = .agg #[.slice aa0 c1.readers.length pa0, .int .i64 c1.writer, .slice aa2 c1.q.length pa2] := d1; clear d1
        have e2 : u 2 = .agg #[.slice ab0 c2.readers.length pb0, .int .i64 c2.writer, .slice ab2 c2.q.length pb2] := d2; clear d2
        have e3 : u 3 = .bool false := d3; clear d3
        have e4 : u 4 = .bool true := d4; clear d4
        have e5 : u 5 = .bool true := d5; clear d5
        have e6 : u 6 = .bool false := d6; clear d6
        have e7 : u 7 = .agg #[.slice ab0 c2.readers.length pb0, .int .i64 c2.writer, .slice ab2 c2.q.length pb2] := d7; clear d7
        have e8 : u 8 = .agg #[.slice aa0 c1.readers.length pa0, .int .i64 c1.writer, .slice aa2 c1.q.length pa2] := d8; clear d8
        have e9 : u 9 = .bool false := d9; clear d9
        have e10 : u 10 = .bool true := d10; clear d10
        have e11 : u 11 = .bool true := d11; clear d11
        have e12 : u 12 = .bool true := d12; clear d12
        have e13 : u 13 = .agg #[.slice aa0 c1.readers.length pa0, .int .i64 c1.writer, .slice aa2 c1.q.length pa2] := d13; clear d13
        have e14 : u 14 = .agg #[.slice aa0 c1.readers.length pa0, .int .i64 c1.writer, .slice aa2 c1.q.length pa2] := d14; clear d14
        have e15 : u 15 = .bool true := d15; clear d15
        have e16 : u 16 = .bool true := d16; clear d16
        simp only [putL, Act.put, List.setIfInBounds_toArray, List.set_cons_zero, List.set_cons_succ, e0, e1, e2, e3, e4, e5, e6, e7, e8, e9, e10, e11, e12, e13, e14, e15, e16] at hK ⊢
        refine Closed.mk ?_
        go_simp
        exact hK.out _ _ ⟨hA, hN, x_a, x_b, o_a, o_b⟩ trivial rfl
      · refine GoalL.mk (by rfl) ⟨fun _ _ _ _ _ h => h, fun _ _ _ _ _ _ h => h⟩ ?_
        intro f u wq hf hC hD K hK
        have hA := hC.1; have hN := hC.2.1; have x_a := hC.2.2.1; have x_b := hC.2.2.2.1; have o_a := hC.2.2.2.2.1; have o_b := hC.2.2.2.2.2; clear hC
        have d0 := hD.1; have d1 := hD.2.1; have d2 := hD.2.2.1; have d3 := hD.2.2.2.1; have d4 := hD.2.2.2.2.1; have d5 := hD.2.2.2.2.2.1; have d6 := hD.2.2.2.2.2.2.1; have d7 := hD.2.2.2.2.2.2.2.1; have d8 := hD.2.2.2.2.2.2.2.2.1; have d9 := hD.2.2.2.2.2.2.2.2.2.1; have d10 := hD.2.2.2.2.2.2.2.2.2.2.1; have d11 := hD.2.2.2.2.2.2.2.2.2.2.2.1; have d12 := hD.2.2.2.2.2.2.2.2.2.2.2.2.1; have d13 := hD.2.2.2.2.2.2.2.2.2.2.2.2.2.1; have d14 := hD.2.2.2.2.2.2.2.2.2.2.2.2.2.2.1; have d15 := hD.2.2.2.2.2.2.2.2.2.2.2.2.2.2.2.1; have d16 := hD.2.2.2.2.2.2.2.2.2.2.2.2.2.2.2.2.1; have d17 := hD.2.2.2.2.2.2.2.2.2.2.2.2.2.2.2.2.2.1; clear hD
        have e0 : u 0 = .bool false := d0; clear d0
        have e1 : u 1 = .agg #[.slice aa0 c1.readers.length pa0, .int .i64 c1.writer, .slice aa2 c1.q.length pa2] := d1; clear d1
        have e2 : u 2 = .agg #[.slice ab0 c2.readers.length pb0, .int .i64 c2.writer, .slice ab2 c2.q.length pb2] := d2; clear d2
        have e3 : u 3 = .bool false := d3; clear d3
        have e4 : u 4 = .bool true := d4; clear d4
        have e5 : u 5 = .bool true := d5; clear d5
        have e6 : u 6 = .bool false := d6; clear d6
        have e7 : u 7 = .agg #[.slice ab0 c2.readers.length pb0, .int .i64 c2.writer, .slice ab2 c2.q.length pb2] := d7; clear d7
        have e8 : u 8 = .agg #[.slice aa0 c1.readers.length pa0, .int .i64 c1.writer, .slice aa2 c1.q.length pa2] := d8; clear d8
        have e9 : u 9 = .bool false := d9; clear d9
        have e10 : u 10 = .bool true := d10; clear d10
        have e11 : u 11 = .bool true := d11; clear d11
        have e12 : u 12 = .bool true := d12; clear d12
        have e13 : u 13 = .agg #[.slice aa0 c1.readers.length pa0, .int .i64 c1.writer, .slice aa2 c1.q.length pa2] := d13; clear d13
        have e14 : u 14 = .agg #[.slice aa0 c1.readers.length pa0, .int .i64 c1.writer, .slice aa2 c1.q.length pa2] := d14; clear d14
        have e15 : u 15 = .bool true := d15; clear d15
        have e16 : u 16 = .bool true := d16; clear d16
        have e17 : u 17 = .bool true := d17; clear d17
        simp only [putL, Act.put, List.setIfInBounds_toArray, List.set_cons_zero, List.set_cons_succ, e0, e1, e2, e3, e4, e5, e6, e7, e8, e9, e10, e11, e12, e13, e14, e15, e16, e17] at hK ⊢
        refine Closed.mk ?_
        go_simp
        exact hK.out _ _ ⟨hA, hN, x_a, x_b, o_a, o_b⟩ trivial rfl
      · refine GoalL.mk (by rfl) ⟨fun _ _ _ _ _ h => h, fun _ _ _ _ _ _ h => h⟩ ?_
        intro f u wq hf hC hD K hK
        have hA := hC.1; have hN := hC.2.1; have x_a := hC.2.2.1; have x_b := hC.2.2.2.1; have o_a := hC.2.2.2.2.1; have o_b := hC.2.2.2.2.2; clear hC
        have d0 := hD.1; have d1 := hD.2.1; have d2 := hD.2.2.1; have d3 := hD.2.2.2.1; have d4 := hD.2.2.2.2.1; have d5 := hD.2.2.2.2.2.1; have d6 := hD.2.2.2.2.2.2.1; have d7 := hD.2.2.2.2.2.2.2.1; have d8 := hD.2.2.2.2.2.2.2.2.1; have d9 := hD.2.2.2.2.2.2.2.2.2.1; have d10 := hD.2.2.2.2.2.2.2.2.2.2.1; have d11 := hD.2.2.2.2.2.2.2.2.2.2.2.1; have d12 := hD.2.2.2.2.2.2.2.2.2.2.2.2.1; have d13 := hD.2.2.2.2.2.2.2.2.2.2.2.2.2.1; have d14 := hD.2.2.2.2.2.2.2.2.2.2.2.2.2.2.1; have d15 := hD.2.2.2.2.2.2.2.2.2.2.2.2.2.2.2.1; have d16 := hD.2.2.2.2.2.2.2.2.2.2.2.2.2.2.2.2.1; have d17 := hD.2.2.2.2.2.2.2.2.2.2.2.2.2.2.2.2.2.1; have d18 := hD.2.2.2.2.2.2.2.2.2.2.2.2.2.2.2.2.2.2.1; clear hD
        have e0 : u 0 = .bool false := d0; clear d0
        have e1 : u 1 = .agg #[.slice aa0 c1.readers.length pa0, .int .i64 c1.writer, .slice aa2 c1.q.length pa2] := d1; clear d1
        have e2 : u 2 = .agg #[.slice ab0 c2.readers.length pb0, .int .i64 c2.writer, .slice ab2 c2.q.length pb2] := d2; clear d2
        have e3 : u 3 = .bool false := d3; clear d3
        have e4 : u 4 = .bool true := d4; clear d4
        have e5 : u 5 = .bool true := d5; clear d5
        have e6 : u 6 = .bool false := d6; clear d6
        have e7 : u 7 = .agg #[.slice ab0 c2.readers.length pb0, .int .i64 c2.writer, .slice ab2 c2.q.length pb2] := d7; clear d7
        have e8 : u 8 = .agg #[.slice aa0 c1.readers.length pa0, .int .i64 c1.writer, .slice aa2 c1.q.length pa2] := d8; clear d8
        have e9 : u 9 = .bool false := d9; clear d9
        have e10 : u 10 = .bool true := d10; clear d10
        have e11 : u 11 = .bool true := d11; clear d11
        have e12 : u 12 = .bool true := d12; clear d12
        have e13 : u 13 = .agg #[.slice aa0 c1.readers.length pa0, .int .i64 c1.writer, .slice aa2 c1.q.length pa2] := d13; clear d13
        have e14 : u 14 = .agg #[.slice aa0 c1.readers.length pa0, .int .i64 c1.writer, .slice aa2 c1.q.length pa2] := d14; clear d14
        have e15 : u 15 = .bool true := d15; clear d15
        have e16 : u 16 = .bool true := d16; clear d16
        have e17 : u 17 = .bool true := d17; clear d17
        have e18 : u 18 = .bool false := d18; clear d18
        simp only [putL, Act.put, List.setIfInBounds_toArray, List.set_cons_zero, List.set_cons_succ, e0, e1, e2, e3, e4, e5, e6, e7, e8, e9, e10, e11, e12, e13, e14, e15, e16, e17, e18] at hK ⊢
        refine Closed.mk ?_
        go_simp
        exact hK.out _ _ ⟨hA, hN, x_a, x_b, o_a, o_b⟩ trivial rfl
      · refine GoalL.mk (by rfl) ⟨fun _ _ _ _ _ h => h, fun _ _ _ _ _ _ h => h⟩ ?_
        intro f u wq hf hC hD K hK
        have hA := hC.1; have hN := hC.2.1; have x_a := hC.2.2.1; have x_b := hC.2.2.2.1; have o_a := hC.2.2.2.2.1; have o_b := hC.2.2.2.2.2; clear hC
        have d0 := hD.1; have d1 := hD.2.1; have d2 := hD.2.2.1; have d3 := hD.2.2.2.1; have d4 := hD.2.2.2.2.1; have d5 := hD.2.2.2.2.2.1; have d6 := hD.2.2.2.2.2.2.1; have d7 := hD.2.2.2.2.2.2.2.1; have d8 := hD.2.2.2.2.2.2.2.2.1; have d9 := hD.2.2.2.2.2.2.2.2.2.1; have d10 := hD.2.2.2.2.2.2.2.2.2.2.1; have d11 := hD.2.2.2.2.2.2.2.2.2.2.2.1; have d12 := hD.2.2.2.2.2.2.2.2.2.2.2.2.1; have d13 := hD.2.2.2.2.2.2.2.2.2.2.2.2.2.1; have d14 := hD.2.2.2.2.2.2.2.2.2.2.2.2.2.2.1; have d15 := hD.2.2.2.2.2.2.2.2.2.2.2.2.2.2.2.1; have d16 := hD.2.2.2.2.2.2.2.2.2.2.2.2.2.2.2.2.1; have d17 := hD.2.2.2.2.2.2.2.2.2.2.2.2.2.2.2.2.2.1; have d18 := hD.2.2.2.2.2.2.2.2.2.2.2.2.2.2.2.2.2.2.1; have d19 := hD.2.2.2.2.2.2.2.2.2.2.2.2.2.2.2.2.2.2.2.1; clear hD
        have e0 : u 0 = .bool false := d0; clear d0
        have e1 : u 1 = .agg #[.slice aa0 c1.readers.length pa0, .int .i64 c1.writer, .slice aa2 c1.q.length pa2] := d1; clear d1
        have e2 : u 2 = .agg #[.slice ab0 c2.readers.length pb0, .int .i64 c2.writer, .slice ab2 c2.q.length pb2] := d2; clear d2
        have e3 : u 3 = .bool false := d3; clear d3
        have e4 : u 4 = .bool true := d4; clear d4
        have e5 : u 5 = .bool true := d5; clear d5
        have e6 : u 6 = .bool false := d6; clear d6
        have e7 : u 7 = .agg #[.slice ab0 c2.readers.length pb0, .int .i64 c2.writer, .slice ab2 c2.q.length pb2] := d7; clear d7
        have e8 : u 8 = .agg #[.slice aa0 c1.readers.length pa0, .int .i64 c1.writer, .slice aa2 c1.q.length pa2] := d8; clear d8
        have e9 : u 9 = .bool false := d9; clear d9
        have e10 : u 10 = .bool true := d10; clear d10
        have e11 : u 11 = .bool true := d11; clear d11
        have e12 : u 12 = .bool true := d12; clear d12
        have e13 : u 13 = .agg #[.slice aa0 c1.readers.length pa0, .int .i64 c1.writer, .slice aa2 c1.q.length pa2] := d13; clear d13
        have e14 : u 14 = .agg #[.slice aa0 c1.readers.length pa0, .int .i64 c1.writer, .slice aa2 c1.q.length pa2] := d14; clear d14
        have e15 : u 15 = .bool true := d15; clear d15
        have e16 : u 16 = .bool true := d16; clear d16
        have e17 : u 17 = .bool true := d17; clear d17
        have e18 : u 18 = .bool false := d18; clear d18
        have e19 : u 19 = .bool true := d19; clear d19
        simp only [putL, Act.put, List.setIfInBounds_toArray, List.set_cons_zero, List.set_cons_succ, e0, e1, e2, e3, e4, e5, e6, e7, e8, e9, e10, e11, e12, e13, e14, e15, e16, e17, e18, e19] at hK ⊢
        refine Closed.mk ?_
        go_simp
        exact hK.out _ _ ⟨hA, hN, x_a, x_b, o_a, o_b⟩ trivial rfl
      · refine GoalL.mk (by rfl) ⟨fun _ _ _ _ _ h => h, fun _ _ _ _ _ _ h => h⟩ ?_
        intro f u wq hf hC hD K hK
        have hA := hC.1; have hN := hC.2.1; have x_a := hC.2.2.1; have x_b := hC.2.2.2.1; have o_a := hC.2.2.2.2.1; have o_b := hC.2.2.2.2.2; clear hC
        have d0 := hD.1; have d1 := hD.2.1; have d2 := hD.2.2.1; have d3 := hD.2.2.2.1; have d4 := hD.2.2.2.2.1; have d5 := hD.2.2.2.2.2.1; have d6 := hD.2.2.2.2.2.2.1; have d7 := hD.2.2.2.2.2.2.2.1; have d8 := hD.2.2.2.2.2.2.2.2.1; have d9 := hD.2.2.2.2.2.2.2.2.2.1; have d10 := hD.2.2.2.2.2.2.2.2.2.2.1; have d11 := hD.2.2.2.2.2.2.2.2.2.2.2.1; have d12 := hD.2.2.2.2.2.2.2.2.2.2.2.2.1; have d13 := hD.2.2.2.2.2.2.2.2.2.2.2.2.2.1; have d14 := hD.2.2.2.2.2.2.2.2.2.2.2.2.2.2.1; have d15 := hD.2.2.2.2.2.2.2.2.2.2.2.2.2.2.2.1; have d16 := hD.2.2.2.2.2.2.2.2.2.2.2.2.2.2.2.2.1; have d17 := hD.2.2.2.2.2.2.2.2.2.2.2.2.2.2.2.2.2.1; have d18 := hD.2.2.2.2.2.2.2.2.2.2.2.2.2.2.2.2.2.2.1; have d19 := hD.2.2.2.2.2.2.2.2.2.2.2.2.2.2.2.2.2.2.2.1; have d20 := hD.2.2.2.2.2.2.2.2.2.2.2.2.2.2.2.2.2.2.2.2.1; clear hD
        have e0 : u 0 = .bool false := d0; clear d0
        have e1 : u 1 = .agg #[.slice aa0 c1.readers.length pa0, .int .i64 c1.writer, .slice aa2 c1.q.length pa2] := d1; clear d1
        have e2 : u 2 = .agg #[.slice ab0 c2.readers.length pb0, .int .i64 c2.writer, .slice ab2 c2.q.length pb2] := d2; clear d2
        have e3 : u 3 = .bool false := d3; clear d3
        have e4 : u 4 = .bool true := d4; clear d4
        have e5 : u 5 = .bool true := d5; clear d5
        have e6 : u 6 = .bool false := d6; clear d6
        have e7 : u 7 = .agg #[.slice ab0 c2.readers.length pb0, .int .i64 c2.writer, .slice ab2 c2.q.length pb2] := d7; clear d7
        have e8 : u 8 = .agg #[.slice aa0 c1.readers.length pa0, .int .i64 c1.writer, .slice aa2 c1.q.length pa2] := d8; clear d8
        have e9 : u 9 = .bool false := d9; clear d9
        have e10 : u 10 = .bool true := d10; clear d10
        have e11 : u 11 = .bool true := d11; clear d11
        have e12 : u 12 = .bool true := d12; clear d12
        have e13 : u 13 = .agg #[.slice aa0 c1.readers.length pa0, .int .i64 c1.writer, .slice aa2 c1.q.length pa2] := d13; clear d13
        have e14 : u 14 = .agg #[.slice aa0 c1.readers.length pa0, .int .i64 c1.writer, .slice aa2 c1.q.length pa2] := d14; clear d14
        have e15 : u 15 = .bool true := d15; clear d15
        have e16 : u 16 = .bool true := d16; clear d16
        have e17 : u 17 = .bool true := d17; clear d17
        have e18 : u 18 = .bool false := d18; clear d18
        have e19 : u 19 = .bool true := d19; clear d19
        have e20 : u 20 = .bool true := d20; clear d20
        simp only [putL, Act.put, List.setIfInBounds_toArray, List.set_cons_zero, List.set_cons_succ, e0, e1, e2, e3, e4, e5, e6, e7, e8, e9, e10, e11, e12, e13, e14, e15, e16, e17, e18, e19, e20] at hK ⊢
        refine Closed.mk ?_
        go_simp
        exact hK.out _ _ ⟨hA, hN, x_a, x_b, o_a, o_b⟩ trivial rfl
      · refine GoalL.mk (by rfl) ⟨fun _ _ _ _ _ h => h, fun _ _ _ _ _ _ h => h⟩ ?_
        intro f u wq hf hC hD K hK
        have hA := hC.1; have hN := hC.2.1; have x_a := hC.2.2.1; have x_b := hC.2.2.2.1; have o_a := hC.2.2.2.2.1; have o_b := hC.2.2.2.2.2; clear hC
        have d0 := hD.1; have d1 := hD.2.1; have d2 := hD.2.2.1; have d3 := hD.2.2.2.1; have d4 := hD.2.2.2.2.1; have d5 := hD.2.2.2.2.2.1; have d6 := hD.2.2.2.2.2.2.1; have d7 := hD.2.2.2.2.2.2.2.1; have d8 := hD.2.2.2.2.2.2.2.2.1; have d9 := hD.2.2.2.2.2.2.2.2.2.1; have d10 := hD.2.2.2.2.2.2.2.2.2.2.1; have d11 := hD.2.2.2.2.2.2.2.2.2.2.2.1; have d12 := hD.2.2.2.2.2.2.2.2.2.2.2.2.1; have d13 := hD.2.2.2.2.2.2.2.2.2.2.2.2.2.1; have d14 := hD.2.2.2.2.2.2.2.2.2.2.2.2.2.2.1; have d15 := hD.2.2.2.2.2.2.2.2.2.2.2.2.2.2.2.1; have d16 := hD.2.2.2.2.2.2.2.2.2.2.2.2.2.2.2.2.1; have d17 := hD.2.2.2.2.2.2.2.2.2.2.2.2.2.2.2.2.2.1; have d18 := hD.2.2.2.2.2.2.2.2.2.2.2.2.2.2.2.2.2.2.1; have d19 := hD.2.2.2.2.2.2.2.2.2.2.2.2.2.2.2.2.2.2.2.1; have d20 := hD.2.2.2.2.2.2.2.2.2.2.2.2.2.2.2.2.2.2.2.2.1; clear hD
        have e0 : u 0 = .bool false := d0; clear d0
        have e1 : u 1 = .agg #[.slice aa0 c1.readers.length pa0, .int .i64 c1.writer, .slice aa2 c1.q.length pa2] := d1; clear d1
        have e2 : u 2 = .agg #[.slice ab0 c2.readers.length pb0, .int .i64 c2.writer, .slice ab2 c2.q.length pb2] := d2; clear d2
        have e3 : u 3 = .bool false := d3; clear d3
        have e4 : u 4 = .bool true := d4; clear d4
        have e5 : u 5 = .bool true := d5; clear d5
        have e6 : u 6 = .bool false := d6; clear d6
        have e7 : u 7 = .agg #[.slice ab0 c2.readers.length pb0, .int .i64 c2.writer, .slice ab2 c2.q.length pb2] := d7; clear d7
        have e8 : u 8 = .agg #[.slice aa0 c1.readers.length pa0, .int .i64 c1.writer, .slice aa2 c1.q.length pa2] := d8; clear d8
        have e9 : u 9 = .bool false := d9; clear d9
        have e10 : u 10 = .bool true := d10; clear d10
        have e11 : u 11 = .bool true := d11; clear d11
        have e12 : u 12 = .bool true := d12; clear d12
        have e13 : u 13 = .agg #[.slice aa0 c1.readers.length pa0, .int .i64 c1.writer, .slice aa2 c1.q.length pa2] := d13; clear d13
        have e14 : u 14 = .agg #[.slice aa0 c1.readers.length pa0, .int .i64 c1.writer, .slice aa2 c1.q.length pa2] := d14; clear d14
        have e15 : u 15 = .bool true := d15; clear d15
        have e16 : u 16 = .bool true := d16; clear d16
        have e17 : u 17 = .bool true := d17; clear d17
        have e18 : u 18 = .bool false := d18; clear d18
        have e19 : u 19 = .bool true := d19; clear d19
        have e20 : u 20 = .bool true := d20; clear d20
        simp only [putL, Act.put, List.setIfInBounds_toArray, List.set_cons_zero, List.set_cons_succ, e0, e1, e2, e3, e4, e5, e6, e7, e8, e9, e10, e11, e12, e13, e14, e15, e16, e17, e18, e19, e20] at hK ⊢
        refine Closed.mk ?_
        go_simp
        exact hK.out _ _ ⟨hA, hN, x_a, x_b, o_a, o_b⟩ trivial rfl
      · refine GoalL.mk (by rfl) ⟨fun _ _ _ _ _ h => h, fun _ _ _ _ _ _ h => h⟩ ?_
        intro f u wq hf hC hD K hK
        have hA := hC.1; have hN := hC.2.1; have x_a := hC.2.2.1; have x_b := hC.2.2.2.1; have o_a := hC.2.2.2.2.1; have o_b := hC.2.2.2.2.2; clear hC
        have d0 := hD.1; have d1 := hD.2.1; have d2 := hD.2.2.1; have d3 := hD.2.2.2.1; have d4 := hD.2.2.2.2.1; have d5 := hD.2.2.2.2.2.1; have d6 := hD.2.2.2.2.2.2.1; have d7 := hD.2.2.2.2.2.2.2.1; have d8 := hD.2.2.2.2.2.2.2.2.1; have d9 := hD.2.2.2.2.2.2.2.2.2.1; have d10 := hD.2.2.2.2.2.2.2.2.2.2.1; have d11 := hD.2.2.2.2.2.2.2.2.2.2.2.1; have d12 := hD.2.2.2.2.2.2.2.2.2.2.2.2.1; have d13 := hD.2.2.2.2.2.2.2.2.2.2.2.2.2.1; have d14 := hD.2.2.2.2.2.2.2.2.2.2.2.2.2.2.1; have d15 := hD.2.2.2.2.2.2.2.2.2.2.2.2.2.2.2.1; have d16 := hD.2.2.2.2.2.2.2.2.2.2.2.2.2.2.2.2.1; have d17 := hD.2.2.2.2.2.2.2.2.2.2.2.2.2.2.2.2.2.1; have d18 := hD.2.2.2.2.2.2.2.2.2.2.2.2.2.2.2.2.2.2.1; have d19 := hD.2.2.2.2.2.2.2.2.2.2.2.2.2.2.2.2.2.2.2.1; have d20 := hD.2.2.2.2.2.2.2.2.2.2.2.2.2.2.2.2.2.2.2.2.1; clear hD
        have e0 : u 0 = .bool false := d0; clear d0
        have e1 : u 1 = .agg #[.slice aa0 c1.readers.length pa0, .int .i64 c1.writer, .slice aa2 c1.q.length pa2] := d1; clear d1
        have e2 : u 2 = .agg #[.slice ab0 c2.readers.length pb0, .int .i64 c2.writer, .slice ab2 c2.q.length pb2] := d2; clear d2
        have e3 : u 3 = .bool false := d3; clear d3
        have e4 : u 4 = .bool true := d4; clear d4
        have e5 : u 5 = .bool true := d5; clear d5
        have e6 : u 6 = .bool false := d6; clear d6
        have e7 : u 7 = .agg #[.slice ab0 c2.readers.length pb0, .int .i64 c2.writer, .slice ab2 c2.q.length pb2] := d7; clear d7
        have e8 : u 8 = .agg #[.slice aa0 c1.readers.length pa0, .int .i64 c1.writer, .slice aa2 c1.q.length pa2] := d8; clear d8
        have e9 : u 9 = .bool false := d9; clear d9
        have e10 : u 10 = .bool true := d10; clear d10
        have e11 : u 11 = .bool true := d11; clear d11
        have e12 : u 12 = .bool true := d12; clear d12
        have e13 : u 13 = .agg #[.slice aa0 c1.readers.length pa0, .int .i64 c1.writer, .slice aa2 c1.q.length pa2] := d13; clear d13
        have e14 : u 14 = .agg #[.slice aa0 c1.readers.length pa0, .int .i64 c1.writer, .slice aa2 c1.q.length pa2] := d14; clear d14
        have e15 : u 15 = .bool true := d15; clear d15
        have e16 : u 16 = .bool true := d16; clear d16
        have e17 : u 17 = .bool true := d17; clear d17
        have e18 : u 18 = .bool false := d18; clear d18
        have e19 : u 19 = .bool true := d19; clear d19
        have e20 : u 20 = .bool true := d20; clear d20
        simp only [putL, Act.put, List.setIfInBounds_toArray, List.set_cons_zero, List.set_cons_succ, e0, e1, e2, e3, e4, e5, e6, e7, e8, e9, e10, e11, e12, e13, e14, e15, e16, e17, e18, e19, e20] at hK ⊢
        refine Closed.mk ?_
        go_simp
        exact hK.out _ _ ⟨hA, hN, x_a, x_b, o_a, o_b⟩ trivial rfl
      · refine GoalL.mk (by rfl) ⟨fun _ _ _ _ _ h => h, fun _ _ _ _ _ _ h => h⟩ ?_
        intro f u wq hf hC hD K hK
        have hA := hC.1; have hN := hC.2.1; have x_a := hC.2.2.1; have x_b := hC.2.2.2.1; have o_a := hC.2.2.2.2.1; have o_b := hC.2.2.2.2.2; clear hC
        have d0 := hD.1; have d1 := hD.2.1; have d2 := hD.2.2.1; have d3 := hD.2.2.2.1; have d4 := hD.2.2.2.2.1; have d5 := hD.2.2.2.2.2.1; have d6 := hD.2.2.2.2.2.2.1; have d7 := hD.2.2.2.2.2.2.2.1; have d8 := hD.2.2.2.2.2.2.2.2.1; have d9 := hD.2.2.2.2.2.2.2.2.2.1; have d10 := hD.2.2.2.2.2.2.2.2.2.2.1; have d11 := hD.2.2.2.2.2.2.2.2.2.2.2.1; have d12 := hD.2.2.2.2.2.2.2.2.2.2.2.2.1; have d13 := hD.2.2.2.2.2.2.2.2.2.2.2.2.2.1; have d14 := hD.2.2.2.2.2.2.2.2.2.2.2.2.2.2.1; have d15 := hD.2.2.2.2.2.2.2.2.2.2.2.2.2.2.2.1; have d16 := hD.2.2.2.2.2.2.2.2.2.2.2.2.2.2.2.2.1; have d17 := hD.2.2.2.2.2.2.2.2.2.2.2.2.2.2.2.2.2.1; have d18 := hD.2.2.2.2.2.2.2.2.2.2.2.2.2.2.2.2.2.2.1; have d19 := hD.2.2.2.2.2.2.2.2.2.2.2.2.2.2.2.2.2.2.2.1; have d20 := hD.2.2.2.2.2.2.2.2.2.2.2.2.2.2.2.2.2.2.2.2.1; clear hD
        have e0 : u 0 = .bool false := d0; clear d0
        have e1 : u 1 = .agg #[.slice aa0 c1.readers.length pa0, .int .i64 c1.writer, .slice aa2 c1.q.length pa2] := d1; clear d1
        have e2 : u 2 = .agg #[.slice ab0 c2.readers.length pb0, .int .i64 c2.writer, .slice ab2 c2.q.length pb2] := d2; clear d2
        have e3 : u 3 = .bool false := d3; clear d3
        have e4 : u 4 = .bool true := d4; clear d4
        have e5 : u 5 = .bool true := d5; clear d5
        have e6 : u 6 = .bool false := d6; clear d6
        have e7 : u 7 = .agg #[.slice ab0 c2.readers.length pb0, .int .i64 c2.writer, .slice ab2 c2.q.length pb2] := d7; clear d7
        have e8 : u 8 = .agg #[.slice aa0 c1.readers.length pa0, .int .i64 c1.writer, .slice aa2 c1.q.length pa2] := d8; clear d8
        have e9 : u 9 = .bool false := d9; clear d9
        have e10 : u 10 = .bool true := d10; clear d10
        have e11 : u 11 = .bool true := d11; clear d11
        have e12 : u 12 = .bool true := d12; clear d12
        have e13 : u 13 = .agg #[.slice aa0 c1.readers.length pa0, .int .i64 c1.writer, .slice aa2 c1.q.length pa2] := d13; clear d13
        have e14 : u 14 = .agg #[.slice aa0 c1.readers.length pa0, .int .i64 c1.writer, .slice aa2 c1.q.length pa2] := d14; clear d14
        have e15 : u 15 = .bool true := d15; clear d15
        have e16 : u 16 = .bool true := d16; clear d16
        have e17 : u 17 = .bool true := d17; clear d17
        have e18 : u 18 = .bool false := d18; clear d18
        have e19 : u 19 = .bool true := d19; clear d19
        have e20 : u 20 = .bool true := d20; clear d20
        simp only [putL, Act.put, List.setIfInBounds_toArray, List.set_cons_zero, List.set_cons_succ, e0, e1, e2, e3, e4, e5, e6, e7, e8, e9, e10, e11, e12, e13, e14, e15, e16, e17, e18, e19, e20] at hK ⊢
        refine Closed.mk ?_
        go_simp
        exact hK.out _ _ ⟨hA, hN, x_a, x_b, o_a, o_b⟩ trivial rfl
      · refine GoalL.mk (by rfl) ⟨fun _ _ _ _ _ h => h, fun _ _ _ _ _ _ h => h⟩ ?_
        intro f u wq hf hC hD K hK
        have hA := hC.1; have hN := hC.2.1; have x_a := hC.2.2.1; have x_b := hC.2.2.2.1; have o_a := hC.2.2.2.2.1; have o_b := hC.2.2.2.2.2; clear hC
        have d0 := hD.1; have d1 := hD.2.1; have d2 := hD.2.2.1; have d3 := hD.2.2.2.1; have d4 := hD.2.2.2.2.1; have d5 := hD.2.2.2.2.2.1; have d6 := hD.2.2.2.2.2.2.1; have d7 := hD.2.2.2.2.2.2.2.1; have d8 := hD.2.2.2.2.2.2.2.2.1; have d9 := hD.2.2.2.2.2.2.2.2.2.1; have d10 := hD.2.2.2.2.2.2.2.2.2.2.1; have d11 := hD.2.2.2.2.2.2.2.2.2.2.2.1; have d12 := hD.2.2.2.2.2.2.2.2.2.2.2.2.1; have d13 := hD.2.2.2.2.2.2.2.2.2.2.2.2.2.1; have d14 := hD.2.2.2.2.2.2.2.2.2.2.2.2.2.2.1; have d15 := hD.2.2.2.2.2.2.2.2.2.2.2.2.2.2.2.1; have d16 := hD.2.2.2.2.2.2.2.2.2.2.2.2.2.2.2.2.1; have d17 := hD.2.2.2.2.2.2.2.2.2.2.2.2.2.2.2.2.2.1; have d18 := hD.2.2.2.2.2.2.2.2.2.2.2.2.2.2.2.2.2.2.1; have d19 := hD.2.2.2.2.2.2.2.2.2.2.2.2.2.2.2.2.2.2.2.1; have d20 := hD.2.2.2.2.2.2.2.2.2.2.2.2.2.2.2.2.2.2.2.2.1; clear hD
        have e0 : u 0 = .bool false := d0; clear d0
        have e1 : u 1 = .agg #[.slice aa0 c1.readers.length pa0, .int .i64 c1.writer, .slice aa2 c1.q.length pa2] := d1; clear d1
        have e2 : u 2 = .agg #[.slice ab0 c2.readers.length pb0, .int .i64 c2.writer, .slice ab2 c2.q.length pb2] := d2; clear d2
        have e3 : u 3 = .bool false := d3; clear d3
        have e4 : u 4 = .bool true := d4; clear d4
        have e5 : u 5 = .bool true := d5; clear d5
        have e6 : u 6 = .bool false := d6; clear d6
        have e7 : u 7 = .agg #[.slice ab0 c2.readers.length pb0, .int .i64 c2.writer, .slice ab2 c2.q.length pb2] := d7; clear d7
        have e8 : u 8 = .agg #[.slice aa0 c1.readers.length pa0, .int .i64 c1.writer, .slice aa2 c1.q.length pa2] := d8; clear d8
        have e9 : u 9 = .bool false := d9; clear d9
        have e10 : u 10 = .bool true := d10; clear d10
        have e11 : u 11 = .bool true := d11; clear d11
        have e12 : u 12 = .bool true := d12; clear d12
        have e13 : u 13 = .agg #[.slice aa0 c1.readers.length pa0, .int .i64 c1.writer, .slice aa2 c1.q.length pa2] := d13; clear d13
        have e14 : u 14 = .agg #[.slice aa0 c1.readers.length pa0, .int .i64 c1.writer, .slice aa2 c1.q.length pa2] := d14; clear d14
        have e15 : u 15 = .bool true := d15; clear d15
        have e16 : u 16 = .bool true := d16; clear d16
        have e17 : u 17 = .bool true := d17; clear d17
        have e18 : u 18 = .bool false := d18; clear d18
        have e19 : u 19 = .bool true := d19; clear d19
        have e20 : u 20 = .bool true := d20; clear d20
        simp only [putL, Act.put, List.setIfInBounds_toArray, List.set_cons_zero, List.set_cons_succ, e0, e1, e2, e3, e4, e5, e6, e7, e8, e9, e10, e11, e12, e13, e14, e15, e16, e17, e18, e19, e20] at hK ⊢
        refine Closed.mk ?_
        go_simp
        exact hK.out _ _ ⟨hA, hN, x_a, x_b, o_a, o_b⟩ trivial rfl
      · refine GoalL.mk (by rfl) ⟨fun _ _ _ _ _ h => h, fun _ _ _ _ _ _ h => h⟩ ?_
        intro f u wq hf hC hD K hK
        have hA := hC.1; have hN := hC.2.1; have x_a := hC.2.2.1; have x_b := hC.2.2.2.1; have o_a := hC.2.2.2.2.1; have o_b := hC.2.2.2.2.2; clear hC
        have d0 := hD.1; have d1 := hD.2.1; have d2 := hD.2.2.1; have d3 := hD.2.2.2.1; have d4 := hD.2.2.2.2.1; have d5 := hD.2.2.2.2.2.1; have d6 := hD.2.2.2.2.2.2.1; have d7 := hD.2.2.2.2.2.2.2.1; have d8 := hD.2.2.2.2.2.2.2.2.1; have d9 := hD.2.2.2.2.2.2.2.2.2.1; have d10 := hD.2.2.2.2.2.2.2.2.2.2.1; have d11 := hD.2.2.2.2.2.2.2.2.2.2.2.1; have d12 := hD.2.2.2.2.2.2.2.2.2.2.2.2.1; have d13 := hD.2.2.2.2.2.2.2.2.2.2.2.2.2.1; have d14 := hD.2.2.2.2.2.2.2.2.2.2.2.2.2.2.1; have d15 := hD.2.2.2.2.2.2.2.2.2.2.2.2.2.2.2.1; have d16 := hD.2.2.2.2.2.2.2.2.2.2.2.2.2.2.2.2.1; have d17 := hD.2.2.2.2.2.2.2.2.2.2.2.2.2.2.2.2.2.1; have d18 := hD.2.2.2.2.2.2.2.2.2.2.2.2.2.2.2.2.2.2.1; have d19 := hD.2.2.2.2.2.2.2.2.2.2.2.2.2.2.2.2.2.2.2.1; have d20 := hD.2.2.2.2.2.2.2.2.2.2.2.2.2.2.2.2.2.2.2.2.1; have d25 := hD.2.2.2.2.2.2.2.2.2.2.2.2.2.2.2.2.2.2.2.2.2.1; clear hD
        have e0 : u 0 = .bool false := d0; clear d0
        have e1 : u 1 = .agg #[.slice aa0 c1.readers.length pa0, .int .i64 c1.writer, .slice aa2 c1.q.length pa2] := d1; clear d1
        have e2 : u 2 = .agg #[.slice ab0 c2.readers.length pb0, .int .i64 c2.writer, .slice ab2 c2.q.length pb2] := d2; clear d2
        have e3 : u 3 = .bool false := d3; clear d3
        have e4 : u 4 = .bool true := d4; clear d4
        have e5 : u 5 = .bool true := d5; clear d5
        have e6 : u 6 = .bool false := d6; clear d6
        have e7 : u 7 = .agg #[.slice ab0 c2.readers.length pb0, .int .i64 c2.writer, .slice ab2 c2.q.length pb2] := d7; clear d7
        have e8 : u 8 = .agg #[.slice aa0 c1.readers.length pa0, .int .i64 c1.writer, .slice aa2 c1.q.length pa2] := d8; clear d8
        have e9 : u 9 = .bool false := d9; clear d9
        have e10 : u 10 = .bool true := d10; clear d10
        have e11 : u 11 = .bool true := d11; clear d11
        have e12 : u 12 = .bool true := d12; clear d12
        have e13 : u 13 = .agg #[.slice aa0 c1.readers.length pa0, .int .i64 c1.writer, .slice aa2 c1.q.length pa2] := d13; clear d13
        have e14 : u 14 = .agg #[.slice aa0 c1.readers.length pa0, .int .i64 c1.writer, .slice aa2 c1.q.length pa2] := d14; clear d14
        have e15 : u 15 = .bool true := d15; clear d15
        have e16 : u 16 = .bool true := d16; clear d16
        have e17 : u 17 = .bool true := d17; clear d17
        have e18 : u 18 = .bool false := d18; clear d18
        have e19 : u 19 = .bool true := d19; clear d19
        have e20 : u 20 = .bool true := d20; clear d20
        have e25 : u 25 = undef := d25; clear d25
        simp only [putL, Act.put, List.setIfInBounds_toArray, List.set_cons_zero, List.set_cons_succ, e0, e1, e2, e3, e4, e5, e6, e7, e8, e9, e10, e11, e12, e13, e14, e15, e16, e17, e18, e19, e20, e25] at hK ⊢
        refine Closed.mk ?_
        go_simp
        exact hK.out _ _ ⟨hA, hN, x_a, x_b, o_a, o_b⟩ trivial rfl
      · refine GoalL.mk (by rfl) ⟨fun _ _ _ _ _ h => h, fun _ _ _ _ _ _ h => h⟩ ?_
        intro f u wq hf hC hD K hK
        have hA := hC.1; have hN := hC.2.1; have x_a := hC.2.2.1; have x_b := hC.2.2.2.1; have o_a := hC.2.2.2.2.1; have o_b := hC.2.2.2.2.2; clear hC
        have d0 := hD.1; have d1 := hD.2.1; have d2 := hD.2.2.1; have d3 := hD.2.2.2.1; have d4 := hD.2.2.2.2.1; have d5 := hD.2.2.2.2.2.1; have d6 := hD.2.2.2.2.2.2.1; have d7 := hD.2.2.2.2.2.2.2.1; have d8 := hD.2.2.2.2.2.2.2.2.1; have d9 := hD.2.2.2.2.2.2.2.2.2.1; have d10 := hD.2.2.2.2.2.2.2.2.2.2.1; have d11 := hD.2.2.2.2.2.2.2.2.2.2.2.1; have d12 := hD.2.2.2.2.2.2.2.2.2.2.2.2.1; have d13 := hD.2.2.2.2.2.2.2.2.2.2.2.2.2.1; have d14 := hD.2.2.2.2.2.2.2.2.2.2.2.2.2.2.1; have d15 := hD.2.2.2.2.2.2.2.2.2.2.2.2.2.2.2.1; have d16 := hD.2.2.2.2.2.2.2.2.2.2.2.2.2.2.2.2.1; have d17 := hD.2.2.2.2.2.2.2.2.2.2.2.2.2.2.2.2.2.1; have d18 := hD.2.2.2.2.2.2.2.2.2.2.2.2.2.2.2.2.2.2.1; have d19 := hD.2.2.2.2.2.2.2.2.2.2.2.2.2.2.2.2.2.2.2.1; have d20 := hD.2.2.2.2.2.2.2.2.2.2.2.2.2.2.2.2.2.2.2.2.1; have d25 := hD.2.2.2.2.2.2.2.2.2.2.2.2.2.2.2.2.2.2.2.2.2.1; have d26 := hD.2.2.2.2.2.2.2.2.2.2.2.2.2.2.2.2.2.2.2.2.2.2.1; clear hD
        have e0 : u 0 = .bool false := d0; clear d0
        have e1 : u 1 = .agg #[.slice aa0 c1.readers.length pa0, .int .i64 c1.writer, .slice aa2 c1.q.length pa2] := d1; clear d1
        have e2 : u 2 = .agg #[.slice ab0 c2.readers.length pb0, .int .i64 c2.writer, .slice ab2 c2.q.length pb2] := d2; clear d2
        have e3 : u 3 = .bool false := d3; clear d3
        have e4 : u 4 = .bool true := d4; clear d4
        have e5 : u 5 = .bool true := d5; clear d5
        have e6 : u 6 = .bool false := d6; clear d6
        have e7 : u 7 = .agg #[.slice ab0 c2.readers.length pb0, .int .i64 c2.writer, .slice ab2 c2.q.length pb2] := d7; clear d7
        have e8 : u 8 = .agg #[.slice aa0 c1.readers.length pa0, .int .i64 c1.writer, .slice aa2 c1.q.length pa2] := d8; clear d8
        have e9 : u 9 = .bool false := d9; clear d9
        have e10 : u 10 = .bool true := d10; clear d10
        have e11 : u 11 = .bool true := d11; clear d11
        have e12 : u 12 = .bool true := d12; clear d12
        have e13 : u 13 = .agg #[.slice aa0 c1.readers.length pa0, .int .i64 c1.writer, .slice aa2 c1.q.length pa2] := d13; clear d13
        have e14 : u 14 = .agg #[.slice aa0 c1.readers.length pa0, .int .i64 c1.writer, .slice aa2 c1.q.length pa2] := d14; clear d14
        have e15 : u 15 = .bool true := d15; clear d15
        have e16 : u 16 = .bool true := d16; clear d16
        have e17 : u 17 = .bool true := d17; clear d17
        have e18 : u 18 = .bool false := d18; clear d18
        have e19 : u 19 = .bool true := d19; clear d19
        have e20 : u 20 = .bool true := d20; clear d20
        have e25 : u 25 = undef := d25; clear d25
        have e26 : u 26 = .bool true := d26; clear d26
        simp only [putL, Act.put, List.setIfInBounds_toArray, List.set_cons_zero, List.set_cons_succ, e0, e1, e2, e3, e4, e5, e6, e7, e8, e9, e10, e11, e12, e13, e14, e15, e16, e17, e18, e19, e20, e25, e26] at hK ⊢
        refine Closed.mk ?_
        go_simp
        exact hK.out _ _ ⟨hA, hN, x_a, x_b, o_a, o_b⟩ trivial rfl
      · refine GoalL.mk (by rfl) ⟨fun _ _ _ _ _ h => h, fun _ _ _ _ _ _ h => h⟩ ?_
        intro f u wq hf hC hD K hK
        have hA := hC.1; have hN := hC.2.1; have x_a := hC.2.2.1; have x_b := hC.2.2.2.1; have o_a := hC.2.2.2.2.1; have o_b := hC.2.2.2.2.2; clear hC
        have d0 := hD.1; have d1 := hD.2.1; have d2 := hD.2.2.1; have d3 := hD.2.2.2.1; have d4 := hD.2.2.2.2.1; have d5 := hD.2.2.2.2.2.1; have d6 := hD.2.2.2.2.2.2.1; have d7 := hD.2.2.2.2.2.2.2.1; have d8 := hD.2.2.2.2.2.2.2.2.1; have d9 := hD.2.2.2.2.2.2.2.2.2.1; have d10 := hD.2.2.2.2.2.2.2.2.2.2.1; have d11 := hD.2.2.2.2.2.2.2.2.2.2.2.1; have d12 := hD.2.2.2.2.2.2.2.2.2.2.2.2.1; have d13 := hD.2.2.2.2.2.2.2.2.2.2.2.2.2.1; have d14 := hD.2.2.2.2.2.2.2.2.2.2.2.2.2.2.1; have d15 := hD.2.2.2.2.2.2.2.2.2.2.2.2.2.2.2.1; have d16 := hD.2.2.2.2.2.2.2.2.2.2.2.2.2.2.2.2.1; have d17 := hD.2.2.2.2.2.2.2.2.2.2.2.2.2.2.2.2.2.1; have d18 := hD.2.2.2.2.2.2.2.2.2.2.2.2.2.2.2.2.2.2.1; have d19 := hD.2.2.2.2.2.2.2.2.2.2.2.2.2.2.2.2.2.2.2.1; have d20 := hD.2.2.2.2.2.2.2.2.2.2.2.2.2.2.2.2.2.2.2.2.1; have d25 := hD.2.2.2.2.2.2.2.2.2.2.2.2.2.2.2.2.2.2.2.2.2.1; have d26 := hD.2.2.2.2.2.2.2.2.2.2.2.2.2.2.2.2.2.2.2.2.2.2.1; have d27 := hD.2.2.2.2.2.2.2.2.2.2.2.2.2.2.2.2.2.2.2.2.2.2.2.1; clear hD
        have e0 : u 0 = .bool false := d0; clear d0
        have e1 : u 1 = .agg #[.slice aa0 c1.readers.length pa0, .int .i64 c1.writer, .slice aa2 c1.q.length pa2] := d1; clear d1
        have e2 : u 2 = .agg #[.slice ab0 c2.readers.length pb0, .int .i64 c2.writer, .slice ab2 c2.q.length pb2] := d2; clear d2
        have e3 : u 3 = .bool false := d3; clear d3
        have e4 : u 4 = .bool true := d4; clear d4
        have e5 : u 5 = .bool true := d5; clear d5
        have e6 : u 6 = .bool false := d6; clear d6
        have e7 : u 7 = .agg #[.slice ab0 c2.readers.length pb0, .int .i64 c2.writer, .slice ab2 c2.q.length pb2] := d7; clear d7
        have e8 : u 8 = .agg #[.slice aa0 c1.readers.length pa0, .int .i64 c1.writer, .slice aa2 c1.q.length pa2] := d8; clear d8
        have e9 : u 9 = .bool false := d9; clear d9
        have e10 : u 10 = .bool true := d10; clear d10
        have e11 : u 11 = .bool true := d11; clear d11
        have e12 : u 12 = .bool true := d12; clear d12
        have e13 : u 13 = .agg #[.slice aa0 c1.readers.length pa0, .int .i64 c1.writer, .slice aa2 c1.q.length pa2] := d13; clear d13
        have e14 : u 14 = .agg #[.slice aa0 c1.readers.length pa0, .int .i64 c1.writer, .slice aa2 c1.q.length pa2] := d14; clear d14
        have e15 : u 15 = .bool true := d15; clear d15
        have e16 : u 16 = .bool true := d16; clear d16
        have e17 : u 17 = .bool true := d17; clear d17
        have e18 : u 18 = .bool false := d18; clear d18
        have e19 : u 19 = .bool true := d19; clear d19
        have e20 : u 20 = .bool true := d20; clear d20
        have e25 : u 25 = undef := d25; clear d25
        have e26 : u 26 = .bool true := d26; clear d26
        have e27 : u 27 = .bool true := d27; clear d27
        simp only [putL, Act.put, List.setIfInBounds_toArray, List.set_cons_zero, List.set_cons_succ, e0, e1, e2, e3, e4, e5, e6, e7, e8, e9, e10, e11, e12, e13, e14, e15, e16, e17, e18, e19, e20, e25, e26, e27] at hK ⊢
        refine Closed.mk ?_
        go_simp
        exact hK.out _ _ ⟨hA, hN, x_a, x_b, o_a, o_b⟩ trivial rfl
      intro u w3 hC hD
      have hA := hC.1; have hN := hC.2.1; have x_a := hC.2.2.1; have x_b := hC.2.2.2.1; have o_a := hC.2.2.2.2.1; have o_b := hC.2.2.2.2.2; clear hC
      have d0 := hD.1; have d1 := hD.2.1; have d2 := hD.2.2.1; have d3 := hD.2.2.2.1; have d4 := hD.2.2.2.2.1; have d5 := hD.2.2.2.2.2.1; have d6 := hD.2.2.2.2.2.2.1; have d7 := hD.2.2.2.2.2.2.2.1; have d8 := hD.2.2.2.2.2.2.2.2.1; have d9 := hD.2.2.2.2.2.2.2.2.2.1; have d10 := hD.2.2.2.2.2.2.2.2.2.2.1; have d11 := hD.2.2.2.2.2.2.2.2.2.2.2.1; have d12 := hD.2.2.2.2.2.2.2.2.2.2.2.2.1; have d13 := hD.2.2.2.2.2.2.2.2.2.2.2.2.2.1; have d14 := hD.2.2.2.2.2.2.2.2.2.2.2.2.2.2.1; have d15 := hD.2.2.2.2.2.2.2.2.2.2.2.2.2.2.2.1; have d16 := hD.2.2.2.2.2.2.2.2.2.2.2.2.2.2.2.2.1; have d17 := hD.2.2.2.2.2.2.2.2.2.2.2.2.2.2.2.2.2.1; have d18 := hD.2.2.2.2.2.2.2.2.2.2.2.2.2.2.2.2.2.2.1; have d19 := hD.2.2.2.2.2.2.2.2.2.2.2.2.2.2.2.2.2.2.2.1; have d20 := hD.2.2.2.2.2.2.2.2.2.2.2.2.2.2.2.2.2.2.2.2.1; have d21 := hD.2.2.2.2.2.2.2.2.2.2.2.2.2.2.2.2.2.2.2.2.2.1; have d22 := hD.2.2.2.2.2.2.2.2.2.2.2.2.2.2.2.2.2.2.2.2.2.2.1; have d23 := hD.2.2.2.2.2.2.2.2.2.2.2.2.2.2.2.2.2.2.2.2.2.2.2.1; have d24 := hD.2.2.2.2.2.2.2.2.2.2.2.2.2.2.2.2.2.2.2.2.2.2.2.2.1; have d25 := hD.2.2.2.2.2.2.2.2.2.2.2.2.2.2.2.2.2.2.2.2.2.2.2.2.2.1; have d26 := hD.2.2.2.2.2.2.2.2.2.2.2.2.2.2.2.2.2.2.2.2.2.2.2.2.2.2.1; have d27 := hD.2.2.2.2.2.2.2.2.2.2.2.2.2.2.2.2.2.2.2.2.2.2.2.2.2.2.2.1; have d28 := hD.2.2.2.2.2.2.2.2.2.2.2.2.2.2.2.2.2.2.2.2.2.2.2.2.2.2.2.2.1; clear hD
      have e0 : u 0 = .bool false := d0; clear d0
      have e1 : u 1 = .agg #[.slice aa0 c1.readers.length pa0, .int .i64 c1.writer, .slice aa2 c1.q.length pa2] := d1; clear d1
      have e2 : u 2 = .agg #[.slice ab0 c2.readers.length pb0, .int .i64 c2.writer, .slice ab2 c2.q.length pb2] := d2; clear d2
      have e3 : u 3 = .bool false := d3; clear d3
      have e4 : u 4 = .bool true := d4; clear d4
      have e5 : u 5 = .bool true := d5; clear d5
      have e6 : u 6 = .bool false := d6; clear d6
      have e7 : u 7 = .agg #[.slice ab0 c2.readers.length pb0, .int .i64 c2.writer, .slice ab2 c2.q.length pb2] := d7; clear d7
      have e8 : u 8 = .agg #[.slice aa0 c1.readers.length pa0, .int .i64 c1.writer, .slice aa2 c1.q.length pa2] := d8; clear d8
      have e9 : u 9 = .bool false := d9; clear d9
      have e10 : u 10 = .bool true := d10; clear d10
      have e11 : u 11 = .bool true := d11; clear d11
      have e12 : u 12 = .bool true := d12; clear d12
      have e13 : u 13 = .agg #[.slice aa0 c1.readers.length pa0, .int .i64 c1.writer, .slice aa2 c1.q.length pa2] := d13; clear d13
      have e14 : u 14 = .agg #[.slice aa0 c1.readers.length pa0, .int .i64 c1.writer, .slice aa2 c1.q.length pa2] := d14; clear d14
      have e15 : u 15 = .bool true := d15; clear d15
      have e16 : u 16 = .bool true := d16; clear d16
      have e17 : u 17 = .bool true := d17; clear d17
      have e18 : u 18 = .bool false := d18; clear d18
      have e19 : u 19 = .bool true := d19; clear d19
      have e20 : u 20 = .bool true := d20; clear d20
      have e21 : u 21 = undef := d21; clear d21
      have e22 : u 22 = undef := d22; clear d22
      have e23 : u 23 = undef := d23; clear d23
      have e24 : u 24 = undef := d24; clear d24
      have e25 : u 25 = undef := d25; clear d25
      have e26 : u 26 = .bool true := d26; clear d26
      have e27 : u 27 = .bool true := d27; clear d27
      have e28 : u 28 = .bool true := d28; clear d28
      have B3 := Lib.hid hA; have N3 := hN; have S3 := hA.size
      have Xa_3 := Lib.hid x_a; clear x_a
      have Xb_3 := Lib.hid x_b; clear x_b
      have Oa_3 := Lib.hid o_a; clear o_a
      have Ob_3 := Lib.hid o_b; clear o_b
      obtain ⟨ca3_0, ca3_1, ca3_2, fa3_0, fa3_1, fa3_2⟩ := box3 Xa_3.out; have la3 := heap_lt Xa_3.out
      obtain ⟨cb3_0, cb3_1, cb3_2, fb3_0, fb3_1, fb3_2⟩ := box3 Xb_3.out; have lb3 := heap_lt Xb_3.out
      clear hA hN
      simp only [putL, Act.put, List.setIfInBounds_toArray, List.set_cons_zero, List.set_cons_succ, e0, e1, e2, e3, e4, e5, e6, e7, e8, e9, e10, e11, e12, e13, e14, e15, e16, e17, e18, e19, e20, e21, e22, e23, e24, e25, e26, e27, e28]
      refine Closed.mk (wpAnyH_done (by kernel_rfl) ?_ _)
      go_wp2_with (fail)
      go_ret
      exact ⟨rfl, B3.out⟩

  · go_enter Tryd.func4, Tryd.ntmps4
    go_wp2
    go_ret
    exact ⟨rfl, Below.refl _ _⟩
end Go.Proofs.YtbnfhnfnbhigoaaDoor
