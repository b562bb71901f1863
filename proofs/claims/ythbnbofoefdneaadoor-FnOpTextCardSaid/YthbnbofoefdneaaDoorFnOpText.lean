/- FnOpText: the law's walk (made by gen_optextlaw.py). -/
import Derived.Test.YthbnbofoefdneaaDoorDrawParse
import Derived.Test.YthbnbofoefdneaaDoorOpBack
import Derived.Test.YthbnbofoefdneaaDoorParseI
import Derived.Test.YthbnbofoefdneaaDoorFmtOpI
import Derived.Test.YthbnbofoefdneaaDoorOpValid
import Derived.Test.YthbnbofoefdneaaDoorOpValidS
import Derived.Laws.StructEq
namespace Go.Proofs.YthbnbofoefdneaaDoor
open Go.RowKit
set_option linter.unusedSimpArgs false
set_option linter.unusedVariables false
theorem opv_some (a b c : Int) : opv (optO (some (a, b, c))) = .agg #[.int .i64 a, .int .i64 b, .int .i64 c] := rfl
theorem some_some {x : OpT} : (some x).isSome = true := rfl
set_option maxRecDepth 100000 in
set_option maxHeartbeats 16000000 in
theorem FnOpText_calls (v u : Value) (bs ms : List Int) (w : World) (h : Row 1 encB w v bs) (hbs : ∀ x ∈ bs, 0 ≤ x ∧ x ≤ 255) (h' : Row 1 encB w u ms) (hms : ∀ x ∈ ms, 0 ≤ x ∧ x ≤ 255) (hL : LaidP w) :
    Calls Tryd.prog 4 #[v, u] w fun e w' => e = .returned (.bool true) ∧ Below w.heap.size w w' := by
  have HB := Lib.hid hbs; have HM := Lib.hid hms; have HL := Lib.hid hL; clear hbs hms hL
  have H0 := Lib.hid h; have H1 := Lib.hid h'
  obtain ⟨a, c, rfl, l1, l2, l3⟩ := h
  obtain ⟨a', c', rfl, m1, m2, m3⟩ := h'
  clear l3 m3
  by_cases hl9 : 1048576 < bs.length
  · have d0 : decide (1048576 < (bs.length : Int)) = true := decide_eq_true (by omega)
    go_enter Tryd.func4, Tryd.ntmps4
    go_wp2
    go_ret
    exact ⟨rfl, Below.refl _ _⟩
  · have d0 : decide (1048576 < (bs.length : Int)) = false := decide_eq_false (by omega)
    by_cases hm9 : 1048576 < ms.length
    · have d1 : decide (1048576 < (ms.length : Int)) = true := decide_eq_true (by omega)
      go_enter Tryd.func4, Tryd.ntmps4
      go_wp2
      go_ret
      exact ⟨rfl, Below.refl _ _⟩
    · have d1 : decide (1048576 < (ms.length : Int)) = false := decide_eq_false (by omega)
      go_enter Tryd.func4, Tryd.ntmps4
      go_wp2_with (fail)
      refine (DrawFormatOp_calls _ bs _ (Row.below H0.out (Below.refl _ _)) HB.out).mono ?_
      rintro e w1 ⟨⟨x0, x1, x2⟩, rfl, hx, hb⟩
      have B1 := Lib.hid (Below.trans (Below.refl _ _) (hb.mono (by first | omega | (simp only [szA, szS, szD, World.heap_drewN] at * <;> omega))) : Below w.heap.size w w1)
      have Z1 := hb.size
      have N1 : w.heap.size ≤ w1.heap.size := (by first | with_reducible exact Z1 | (simp only [szA, szS, szD] at Z1; omega))
      clear Z1
      clear hb
      have S1 : w.heap.size ≤ w1.heap.size := (by omega)
      have HSM := Lib.hid hx; have HI := Lib.hid hx.inB; clear hx
      obtain ⟨s, hs⟩ : ∃ s, opText (x0, x1, x2) = s := ⟨_, rfl⟩
      have hs60 : s.size ≤ 60 := by rw [← hs]; exact opText_size HI.out.2.1 HI.out.2.2
      have HS := Lib.hid hs; clear hs
      have q0 : (s.toList == s.toList) = true := beq_self_eq_true _
      go_wp2_with (fail)
      refine (FormatOp_calls (x0, x1, x2) _ (HL.out.1.below (Below.alloc B1.out (by first | omega | (simp only [szA, szS, szD, World.heap_drewN] at * <;> omega)) _)) HI.out.2.1 HI.out.2.2).mono ?_
      rw [HS.out]
      rintro e w2 ⟨rfl, hb⟩
      have B2 := Lib.hid (Below.trans (Below.alloc B1.out (by first | omega | (simp only [szA, szS, szD, World.heap_drewN] at * <;> omega)) _) (hb.mono (by first | omega | (simp only [szA, szS, szD, World.heap_drewN] at * <;> omega))) : Below w.heap.size w w2)
      have Z2 := hb.size
      have N2 : w1.heap.size + 1 ≤ w2.heap.size := (by first | with_reducible exact Z2 | (simp only [szA, szS, szD] at Z2; omega))
      clear Z2
      have Xo_2 : Hid (w2.heap[w1.heap.size]? = some (.cells #[.int .i64 x0, .int .i64 x1, .int .i64 x2] 23 (0, 0))) := below_at hb (heap_at' (n := w1.heap.size) (by first | omega | (simp only [szA, szS, szD, World.heap_drewN] at * <;> omega)))
      clear hb
      obtain ⟨co2_0, co2_1, co2_2, fo2_0, fo2_1, fo2_2⟩ := box3 Xo_2.out; have lo2 := heap_lt Xo_2.out
      have S2 : w.heap.size ≤ w2.heap.size := (by omega)
      go_wp2_with (fail)
      refine (sFormatOp_calls (x0, x1, x2) _ HI.out.2.1 HI.out.2.2).mono ?_
      rw [HS.out]
      rintro e w3 ⟨rfl, hb⟩
      have B3 := Lib.hid (Below.trans B2.out (hb.mono (by first | omega | (simp only [szA, szS, szD, World.heap_drewN] at * <;> omega))) : Below w.heap.size w w3)
      have Z3 := hb.size
      have N3 : w2.heap.size ≤ w3.heap.size := (by first | with_reducible exact Z3 | (simp only [szA, szS, szD] at Z3; omega))
      clear Z3
      have Xo_3 := Lib.hid (below_at hb Xo_2.out)
      clear hb
      obtain ⟨co3_0, co3_1, co3_2, fo3_0, fo3_1, fo3_2⟩ := box3 Xo_3.out; have lo3 := heap_lt Xo_3.out
      have S3 : w.heap.size ≤ w3.heap.size := (by omega)
      clear co2_0 co2_1 co2_2 fo2_0 fo2_1 fo2_2
      go_wp2_with (fail)
      refine (DrawOpValid_calls _ bs _ (Row.below H0.out B3.out) HB.out).mono ?_
      rintro e w4 ⟨vd, c, ⟨y0, y1, y2⟩, rfl, ho_d, hld, hy, hb⟩
      have B4 := Lib.hid (Below.trans B3.out (hb.mono (by first | omega | (simp only [szA, szS, szD, World.heap_drewN] at * <;> omega))) : Below w.heap.size w w4)
      have Z4 := hb.size
      have N4 : w3.heap.size ≤ w4.heap.size := (by first | with_reducible exact Z4 | (simp only [szA, szS, szD] at Z4; omega))
      clear Z4
      have Xo_4 := Lib.hid (below_at hb Xo_3.out)
      have Od_4 := Lib.hid (ho_d.mono (lo' := w.heap.size) (by first | omega | (simp only [szA, szS, szD, World.heap_drewN] at * <;> omega)) (Nat.le_refl _)); obtain ⟨ad0, pd0, ad1, pd1, ad2, pd2, ad3, pd3, ad4, pd4, rfl, hx_d⟩ := ho_d; clear hx_d
      clear hb
      obtain ⟨co4_0, co4_1, co4_2, fo4_0, fo4_1, fo4_2⟩ := box3 Xo_4.out; have lo4 := heap_lt Xo_4.out
      have S4 : w.heap.size ≤ w4.heap.size := (by omega)
      clear co3_0 co3_1 co3_2 fo3_0 fo3_1 fo3_2
      clear hld hy
      cases hv : opB c (x0, x1, x2)
      · have HV := Lib.hid hv; clear hv
        go_wp2_with (fail)
        refine (ParseOp_calls s _ (HL.out.below (Below.alloc (Below.alloc B4.out (by first | omega | (simp only [szA, szS, szD, World.heap_drewN] at * <;> omega)) _) (by first | omega | (simp only [szA, szS, szD, World.heap_drewN] at * <;> omega)) _)) (by omega)).mono ?_
        rintro e w5 ⟨r, rfl, hr, hb⟩
        have B5 := Lib.hid (Below.trans (Below.alloc (Below.alloc B4.out (by first | omega | (simp only [szA, szS, szD, World.heap_drewN] at * <;> omega)) _) (by first | omega | (simp only [szA, szS, szD, World.heap_drewN] at * <;> omega)) _) (hb.mono (by first | omega | (simp only [szA, szS, szD, World.heap_drewN] at * <;> omega))) : Below w.heap.size w w5)
        have Z5 := hb.size
        have N5 : w4.heap.size + 2 ≤ w5.heap.size := (by first | with_reducible exact Z5 | (simp only [szA, szS, szD] at Z5; omega))
        clear Z5
        have Xo_5 := Lib.hid (below_at hb (heap_up (heap_up Xo_4.out)))
        have Xp_5 : Hid (w5.heap[w4.heap.size]? = some (.cells #[.slice ad0 c.sems.length pd0, .slice ad1 c.groups.length pd1, .slice ad2 c.barriers.length pd2, .slice ad3 c.rooms.length pd3, .slice ad4 c.threads.length pd4] 34 (0, 0))) := below_at hb (heap_up (heap_at' (n := w4.heap.size) (by first | omega | (simp only [szA, szS, szD, World.heap_drewN] at * <;> omega))))
        have Xy_5 : Hid (w5.heap[w4.heap.size + 1]? = some (.cells #[.int .i64 y0, .int .i64 y1, .int .i64 y2] 23 (0, 0))) := below_at hb (heap_at' (n := w4.heap.size + 1) (by first | omega | (simp only [szA, szS, szD, World.heap_drewN] at * <;> omega)))
        have Od_5 := Lib.hid (((Od_4.out.alloc _).alloc _).kept hb)
        clear hb
        obtain ⟨co5_0, co5_1, co5_2, fo5_0, fo5_1, fo5_2⟩ := box3 Xo_5.out; have lo5 := heap_lt Xo_5.out
        obtain ⟨cp5_0, cp5_1, cp5_2, cp5_3, cp5_4, fp5_0, fp5_1, fp5_2, fp5_3, fp5_4⟩ := box5 Xp_5.out; have lp5 := heap_lt Xp_5.out
        obtain ⟨cy5_0, cy5_1, cy5_2, fy5_0, fy5_1, fy5_2⟩ := box3 Xy_5.out; have ly5 := heap_lt Xy_5.out
        have S5 : w.heap.size ≤ w5.heap.size := (by omega)
        clear co4_0 co4_1 co4_2 fo4_0 fo4_1 fo4_2
        clear hr
        obtain ⟨y9, hy9⟩ : ∃ y, optO r = y := ⟨_, rfl⟩
        obtain ⟨g0, g1, g2⟩ := y9
        obtain ⟨bb, hbb⟩ : ∃ bb, r.isSome = bb := ⟨_, rfl⟩
        rw [hy9, hbb]
        clear hy9 hbb
        go_wp2_with (fail)
        obtain ⟨hi_d, HI_d⟩ : ∃ hi, ProgOwn w.heap.size hi (w5.alloc (.cells #[.int .i64 g0, .int .i64 g1, .int .i64 g2] 23)) (.agg #[.slice ad0 c.sems.length pd0, .slice ad1 c.groups.length pd1, .slice ad2 c.barriers.length pd2, .slice ad3 c.rooms.length pd3, .slice ad4 c.threads.length pd4]) c := ⟨_, (Od_5.out.alloc _)⟩
        have hN0 : w5.heap.size + 1 ≤ (w5.alloc (.cells #[.int .i64 g0, .int .i64 g1, .int .i64 g2] 23)).heap.size := (by first | omega | (simp only [szA, szS, szD, World.heap_drewN] at * <;> omega))
        refine wp_region_L [⟨0, false, [], fun _ v _ => v = .agg #[.slice ad0 c.sems.length pd0, .slice ad1 c.groups.length pd1, .slice ad2 c.barriers.length pd2, .slice ad3 c.rooms.length pd3, .slice ad4 c.threads.length pd4]⟩, ⟨1, false, [], fun _ v _ => v = .agg #[.int .i64 x0, .int .i64 x1, .int .i64 x2]⟩, ⟨2, false, [0, 1], fun _ v _ => v = .bool false⟩, ⟨3, false, [], fun _ v _ => v = .agg #[.slice ad0 c.sems.length pd0, .slice ad1 c.groups.length pd1, .slice ad2 c.barriers.length pd2, .slice ad3 c.rooms.length pd3, .slice ad4 c.threads.length pd4]⟩, ⟨4, false, [], fun _ v _ => v = .agg #[.int .i64 x0, .int .i64 x1, .int .i64 x2]⟩, ⟨5, false, [3, 4], fun _ v _ => v = .bool false⟩, ⟨6, false, [0, 1, 2, 3, 4, 5], fun _ v _ => v = .bool false⟩, ⟨7, false, [0, 1, 2, 3, 4, 5, 6], fun _ v _ => v = .bool false⟩, ⟨8, false, [0, 1, 2, 3, 4, 5, 6, 7], fun _ v _ => v = .agg #[.slice ad0 c.sems.length pd0, .slice ad1 c.groups.length pd1, .slice ad2 c.barriers.length pd2, .slice ad3 c.rooms.length pd3, .slice ad4 c.threads.length pd4]⟩, ⟨9, false, [0, 1, 2, 3, 4, 5, 6, 7], fun _ v _ => v = .agg #[.int .i64 x0, .int .i64 x1, .int .i64 x2]⟩, ⟨10, false, [0, 1, 2, 3, 4, 5, 6, 7, 8, 9], fun _ v _ => v = .bool false⟩, ⟨11, false, [0, 1, 2, 3, 4, 5, 6, 7, 8, 9, 10], fun _ v _ => v = .bool false⟩, ⟨12, false, [0, 1, 2, 3, 4, 5, 6, 7, 8, 9, 10, 11], fun _ v _ => v = undef⟩, ⟨13, false, [0, 1, 2, 3, 4, 5, 6, 7, 8, 9, 10, 11], fun _ v _ => v = undef⟩, ⟨14, false, [0, 1, 2, 3, 4, 5, 6, 7, 8, 9, 10, 11], fun _ v _ => v = undef⟩, ⟨15, false, [0, 1, 2, 3, 4, 5, 6, 7, 8, 9, 10, 11, 14], fun _ v _ => v = undef⟩, ⟨16, false, [0, 1, 2, 3, 4, 5, 6, 7, 8, 9, 10, 11, 14], fun _ v _ => v = undef⟩, ⟨17, false, [0, 1, 2, 3, 4, 5, 6, 7, 8, 9, 10, 11, 14], fun _ v _ => v = undef⟩, ⟨18, false, [0, 1, 2, 3, 4, 5, 6, 7, 8, 9, 10, 11], fun _ v _ => v = undef⟩, ⟨19, false, [0, 1, 2, 3, 4, 5, 6, 7, 8, 9, 10, 11, 18], fun _ v _ => v = .bool false⟩, ⟨20, false, [0, 1, 2, 3, 4, 5, 6, 7, 8, 9, 10, 11, 18, 19], fun _ v _ => v = .bool false⟩] [(0, some 42), (1, some 43), (2, some 44), (3, some 45), (4, some 46), (5, some 47), (6, some 48), (7, some 49), (8, some 50), (9, some 51), (10, some 52), (11, some 53), (12, some 54), (13, some 55), (14, some 56), (15, some 57), (16, some 58), (17, some 59), (18, some 60), (19, some 61), (20, some 62)] (fun _ w' => Below w.heap.size w w' ∧ w5.heap.size + 1 ≤ w'.heap.size ∧ w'.heap[w4.heap.size]? = some (.cells #[.slice ad0 c.sems.length pd0, .slice ad1 c.groups.length pd1, .slice ad2 c.barriers.length pd2, .slice ad3 c.rooms.length pd3, .slice ad4 c.threads.length pd4] 34 (0, 0)) ∧ w'.heap[w1.heap.size]? = some (.cells #[.int .i64 x0, .int .i64 x1, .int .i64 x2] 23 (0, 0)) ∧ w'.heap[w5.heap.size]? = some (.cells #[.int .i64 g0, .int .i64 g1, .int .i64 g2] 23 (0, 0)) ∧ ProgOwn w.heap.size hi_d w' (.agg #[.slice ad0 c.sems.length pd0, .slice ad1 c.groups.length pd1, .slice ad2 c.barriers.length pd2, .slice ad3 c.rooms.length pd3, .slice ad4 c.threads.length pd4]) c) (fun _ _ _ => True) (by kernel_rfl) (by rfl) (by kernel_rfl) (by kernel_rfl) ⟨((Below.alloc B5.out (by first | omega | (simp only [szA, szS, szD, World.heap_drewN] at * <;> omega)) _)).drew, hN0, (heap_drew (heap_up Xp_5.out)), (heap_drew (heap_up Xo_5.out)), (heap_drew (heap_at' (n := w5.heap.size) (by first | omega | (simp only [szA, szS, szD, World.heap_drewN] at * <;> omega)))), HI_d⟩ (GoalsL.cons ?_ (GoalsL.cons ?_ (GoalsL.cons ?_ (GoalsL.cons ?_ (GoalsL.cons ?_ (GoalsL.cons ?_ (GoalsL.cons ?_ (GoalsL.cons ?_ (GoalsL.cons ?_ (GoalsL.cons ?_ (GoalsL.cons ?_ (GoalsL.cons ?_ (GoalsL.cons ?_ (GoalsL.cons ?_ (GoalsL.cons ?_ (GoalsL.cons ?_ (GoalsL.cons ?_ (GoalsL.cons ?_ (GoalsL.cons ?_ (GoalsL.cons ?_ (GoalsL.cons ?_ (GoalsL.nil)))))))))))))))))))))) ?_
        · refine GoalL.mk0 (by rfl) ?_; rintro f u wq hf ⟨hA, hN, x_p, x_o, x_g, o_d⟩ hD K hK; clear hD; simp only [put9] at hK ⊢
          obtain ⟨kp_0, kp_1, kp_2, kp_3, kp_4, fp_0, fp_1, fp_2, fp_3, fp_4⟩ := box5 x_p; refine Closed.mk ?_; go_simp
          exact hK.out _ _ ⟨hA, hN, x_p, x_o, x_g, o_d⟩ trivial rfl
        · refine GoalL.mk0 (by rfl) ?_; rintro f u wq hf ⟨hA, hN, x_p, x_o, x_g, o_d⟩ hD K hK; clear hD; simp only [put9] at hK ⊢
          obtain ⟨ko_0, ko_1, ko_2, fo_0, fo_1, fo_2⟩ := box3 x_o; refine Closed.mk ?_; go_simp
          exact hK.out _ _ ⟨hA, hN, x_p, x_o, x_g, o_d⟩ trivial rfl
        · refine GoalL.mk0 (by rfl) ?_; rintro f u wq hf ⟨hA, hN, x_p, x_o, x_g, o_d⟩ hD K hK; have e0 : u 0 = _ := hD.1; have e1 : u 1 = _ := hD.2.1; clear hD; simp only [put9, e0, e1] at hK ⊢
          refine Closed.mk ?_; go_simp
          refine (OpValidO _ c (x0, x1, x2) _ (o_d.row)).mono ?_
          rw [HV.out]
          rintro e wr ⟨rfl, hb⟩
          exact hK.out _ _ ⟨Below.trans hA (hb.mono hA.size), Nat.le_trans hN hb.size, (below_at hb x_p), (below_at hb x_o), (below_at hb x_g), (o_d.kept hb)⟩ trivial rfl
        · refine GoalL.mk0 (by rfl) ?_; rintro f u wq hf ⟨hA, hN, x_p, x_o, x_g, o_d⟩ hD K hK; clear hD; simp only [put9] at hK ⊢
          obtain ⟨kp_0, kp_1, kp_2, kp_3, kp_4, fp_0, fp_1, fp_2, fp_3, fp_4⟩ := box5 x_p; refine Closed.mk ?_; go_simp
          exact hK.out _ _ ⟨hA, hN, x_p, x_o, x_g, o_d⟩ trivial rfl
        · refine GoalL.mk0 (by rfl) ?_; rintro f u wq hf ⟨hA, hN, x_p, x_o, x_g, o_d⟩ hD K hK; clear hD; simp only [put9] at hK ⊢
          obtain ⟨ko_0, ko_1, ko_2, fo_0, fo_1, fo_2⟩ := box3 x_o; refine Closed.mk ?_; go_simp
          exact hK.out _ _ ⟨hA, hN, x_p, x_o, x_g, o_d⟩ trivial rfl
        · refine GoalL.mk0 (by rfl) ?_; rintro f u wq hf ⟨hA, hN, x_p, x_o, x_g, o_d⟩ hD K hK; have e3 : u 3 = _ := hD.1; have e4 : u 4 = _ := hD.2.1; clear hD; simp only [put9, e3, e4] at hK ⊢
          refine Closed.mk ?_; go_simp
          refine (sOpValidO _ c (x0, x1, x2) _ (o_d.row)).mono ?_
          rw [HV.out]
          rintro e wr ⟨rfl, hb⟩
          exact hK.out _ _ ⟨Below.trans hA (hb.mono hA.size), Nat.le_trans hN hb.size, (below_at hb x_p), (below_at hb x_o), (below_at hb x_g), (o_d.kept hb)⟩ trivial rfl
        · refine GoalL.mk0 (by rfl) ?_; rintro f u wq hf ⟨hA, hN, x_p, x_o, x_g, o_d⟩ hD K hK; have e0 : u 0 = _ := hD.1; have e1 : u 1 = _ := hD.2.1; have e2 : u 2 = _ := hD.2.2.1; have e3 : u 3 = _ := hD.2.2.2.1; have e4 : u 4 = _ := hD.2.2.2.2.1; have e5 : u 5 = _ := hD.2.2.2.2.2.1; clear hD; simp only [put9, e0, e1, e2, e3, e4, e5] at hK ⊢
          refine Closed.mk ?_; go_simp
          exact hK.out _ _ ⟨hA, hN, x_p, x_o, x_g, o_d⟩ trivial rfl
        · refine GoalL.mk0 (by rfl) ?_; rintro f u wq hf ⟨hA, hN, x_p, x_o, x_g, o_d⟩ hD K hK; have e0 : u 0 = _ := hD.1; have e1 : u 1 = _ := hD.2.1; have e2 : u 2 = _ := hD.2.2.1; have e3 : u 3 = _ := hD.2.2.2.1; have e4 : u 4 = _ := hD.2.2.2.2.1; have e5 : u 5 = _ := hD.2.2.2.2.2.1; have e6 : u 6 = _ := hD.2.2.2.2.2.2.1; clear hD; simp only [put9, e0, e1, e2, e3, e4, e5, e6] at hK ⊢
          refine Closed.mk ?_; go_simp
          exact hK.out _ _ ⟨hA, hN, x_p, x_o, x_g, o_d⟩ trivial rfl
        · refine GoalL.mk0 (by rfl) ?_; rintro f u wq hf ⟨hA, hN, x_p, x_o, x_g, o_d⟩ hD K hK; have e0 : u 0 = _ := hD.1; have e1 : u 1 = _ := hD.2.1; have e2 : u 2 = _ := hD.2.2.1; have e3 : u 3 = _ := hD.2.2.2.1; have e4 : u 4 = _ := hD.2.2.2.2.1; have e5 : u 5 = _ := hD.2.2.2.2.2.1; have e6 : u 6 = _ := hD.2.2.2.2.2.2.1; have e7 : u 7 = _ := hD.2.2.2.2.2.2.2.1; clear hD; simp only [put9, e0, e1, e2, e3, e4, e5, e6, e7] at hK ⊢
          obtain ⟨kp_0, kp_1, kp_2, kp_3, kp_4, fp_0, fp_1, fp_2, fp_3, fp_4⟩ := box5 x_p; refine Closed.mk ?_; go_simp
          exact hK.out _ _ ⟨hA, hN, x_p, x_o, x_g, o_d⟩ trivial rfl
        · refine GoalL.mk0 (by rfl) ?_; rintro f u wq hf ⟨hA, hN, x_p, x_o, x_g, o_d⟩ hD K hK; have e0 : u 0 = _ := hD.1; have e1 : u 1 = _ := hD.2.1; have e2 : u 2 = _ := hD.2.2.1; have e3 : u 3 = _ := hD.2.2.2.1; have e4 : u 4 = _ := hD.2.2.2.2.1; have e5 : u 5 = _ := hD.2.2.2.2.2.1; have e6 : u 6 = _ := hD.2.2.2.2.2.2.1; have e7 : u 7 = _ := hD.2.2.2.2.2.2.2.1; clear hD; simp only [put9, e0, e1, e2, e3, e4, e5, e6, e7] at hK ⊢
          obtain ⟨ko_0, ko_1, ko_2, fo_0, fo_1, fo_2⟩ := box3 x_o; refine Closed.mk ?_; go_simp
          exact hK.out _ _ ⟨hA, hN, x_p, x_o, x_g, o_d⟩ trivial rfl
        · refine GoalL.mk0 (by rfl) ?_; rintro f u wq hf ⟨hA, hN, x_p, x_o, x_g, o_d⟩ hD K hK; have e0 : u 0 = _ := hD.1; have e1 : u 1 = _ := hD.2.1; have e2 : u 2 = _ := hD.2.2.1; have e3 : u 3 = _ := hD.2.2.2.1; have e4 : u 4 = _ := hD.2.2.2.2.1; have e5 : u 5 = _ := hD.2.2.2.2.2.1; have e6 : u 6 = _ := hD.2.2.2.2.2.2.1; have e7 : u 7 = _ := hD.2.2.2.2.2.2.2.1; have e8 : u 8 = _ := hD.2.2.2.2.2.2.2.2.1; have e9 : u 9 = _ := hD.2.2.2.2.2.2.2.2.2.1; clear hD; simp only [put9, e0, e1, e2, e3, e4, e5, e6, e7, e8, e9] at hK ⊢
          refine Closed.mk ?_; go_simp
          refine (OpValidO _ c (x0, x1, x2) _ (o_d.row)).mono ?_
          rw [HV.out]
          rintro e wr ⟨rfl, hb⟩
          exact hK.out _ _ ⟨Below.trans hA (hb.mono hA.size), Nat.le_trans hN hb.size, (below_at hb x_p), (below_at hb x_o), (below_at hb x_g), (o_d.kept hb)⟩ trivial rfl
        · refine GoalL.mk0 (by rfl) ?_; rintro f u wq hf ⟨hA, hN, x_p, x_o, x_g, o_d⟩ hD K hK; have e0 : u 0 = _ := hD.1; have e1 : u 1 = _ := hD.2.1; have e2 : u 2 = _ := hD.2.2.1; have e3 : u 3 = _ := hD.2.2.2.1; have e4 : u 4 = _ := hD.2.2.2.2.1; have e5 : u 5 = _ := hD.2.2.2.2.2.1; have e6 : u 6 = _ := hD.2.2.2.2.2.2.1; have e7 : u 7 = _ := hD.2.2.2.2.2.2.2.1; have e8 : u 8 = _ := hD.2.2.2.2.2.2.2.2.1; have e9 : u 9 = _ := hD.2.2.2.2.2.2.2.2.2.1; have e10 : u 10 = _ := hD.2.2.2.2.2.2.2.2.2.2.1; clear hD; simp only [put9, e0, e1, e2, e3, e4, e5, e6, e7, e8, e9, e10] at hK ⊢
          refine Closed.mk ?_; go_simp
          exact hK.out _ _ ⟨hA, hN, x_p, x_o, x_g, o_d⟩ trivial rfl
        · refine GoalL.mk0 (by rfl) ?_; rintro f u wq hf ⟨hA, hN, x_p, x_o, x_g, o_d⟩ hD K hK; have e0 : u 0 = _ := hD.1; have e1 : u 1 = _ := hD.2.1; have e2 : u 2 = _ := hD.2.2.1; have e3 : u 3 = _ := hD.2.2.2.1; have e4 : u 4 = _ := hD.2.2.2.2.1; have e5 : u 5 = _ := hD.2.2.2.2.2.1; have e6 : u 6 = _ := hD.2.2.2.2.2.2.1; have e7 : u 7 = _ := hD.2.2.2.2.2.2.2.1; have e8 : u 8 = _ := hD.2.2.2.2.2.2.2.2.1; have e9 : u 9 = _ := hD.2.2.2.2.2.2.2.2.2.1; have e10 : u 10 = _ := hD.2.2.2.2.2.2.2.2.2.2.1; have e11 : u 11 = _ := hD.2.2.2.2.2.2.2.2.2.2.2.1; clear hD; simp only [put9, e0, e1, e2, e3, e4, e5, e6, e7, e8, e9, e10, e11] at hK ⊢
          refine Closed.mk ?_; go_simp
          exact hK.out _ _ ⟨hA, hN, x_p, x_o, x_g, o_d⟩ trivial rfl
        · refine GoalL.mk0 (by rfl) ?_; rintro f u wq hf ⟨hA, hN, x_p, x_o, x_g, o_d⟩ hD K hK; have e0 : u 0 = _ := hD.1; have e1 : u 1 = _ := hD.2.1; have e2 : u 2 = _ := hD.2.2.1; have e3 : u 3 = _ := hD.2.2.2.1; have e4 : u 4 = _ := hD.2.2.2.2.1; have e5 : u 5 = _ := hD.2.2.2.2.2.1; have e6 : u 6 = _ := hD.2.2.2.2.2.2.1; have e7 : u 7 = _ := hD.2.2.2.2.2.2.2.1; have e8 : u 8 = _ := hD.2.2.2.2.2.2.2.2.1; have e9 : u 9 = _ := hD.2.2.2.2.2.2.2.2.2.1; have e10 : u 10 = _ := hD.2.2.2.2.2.2.2.2.2.2.1; have e11 : u 11 = _ := hD.2.2.2.2.2.2.2.2.2.2.2.1; clear hD; simp only [put9, e0, e1, e2, e3, e4, e5, e6, e7, e8, e9, e10, e11] at hK ⊢
          refine Closed.mk ?_; go_simp
          exact hK.out _ _ ⟨hA, hN, x_p, x_o, x_g, o_d⟩ trivial rfl
        · refine GoalL.mk0 (by rfl) ?_; rintro f u wq hf ⟨hA, hN, x_p, x_o, x_g, o_d⟩ hD K hK; have e0 : u 0 = _ := hD.1; have e1 : u 1 = _ := hD.2.1; have e2 : u 2 = _ := hD.2.2.1; have e3 : u 3 = _ := hD.2.2.2.1; have e4 : u 4 = _ := hD.2.2.2.2.1; have e5 : u 5 = _ := hD.2.2.2.2.2.1; have e6 : u 6 = _ := hD.2.2.2.2.2.2.1; have e7 : u 7 = _ := hD.2.2.2.2.2.2.2.1; have e8 : u 8 = _ := hD.2.2.2.2.2.2.2.2.1; have e9 : u 9 = _ := hD.2.2.2.2.2.2.2.2.2.1; have e10 : u 10 = _ := hD.2.2.2.2.2.2.2.2.2.2.1; have e11 : u 11 = _ := hD.2.2.2.2.2.2.2.2.2.2.2.1; clear hD; simp only [put9, e0, e1, e2, e3, e4, e5, e6, e7, e8, e9, e10, e11] at hK ⊢
          refine Closed.mk ?_; go_simp
          exact hK.out _ _ ⟨hA, hN, x_p, x_o, x_g, o_d⟩ trivial rfl
        · refine GoalL.mk0 (by rfl) ?_; rintro f u wq hf ⟨hA, hN, x_p, x_o, x_g, o_d⟩ hD K hK; have e0 : u 0 = _ := hD.1; have e1 : u 1 = _ := hD.2.1; have e2 : u 2 = _ := hD.2.2.1; have e3 : u 3 = _ := hD.2.2.2.1; have e4 : u 4 = _ := hD.2.2.2.2.1; have e5 : u 5 = _ := hD.2.2.2.2.2.1; have e6 : u 6 = _ := hD.2.2.2.2.2.2.1; have e7 : u 7 = _ := hD.2.2.2.2.2.2.2.1; have e8 : u 8 = _ := hD.2.2.2.2.2.2.2.2.1; have e9 : u 9 = _ := hD.2.2.2.2.2.2.2.2.2.1; have e10 : u 10 = _ := hD.2.2.2.2.2.2.2.2.2.2.1; have e11 : u 11 = _ := hD.2.2.2.2.2.2.2.2.2.2.2.1; have e14 : u 14 = _ := hD.2.2.2.2.2.2.2.2.2.2.2.2.1; clear hD; simp only [put9, e0, e1, e2, e3, e4, e5, e6, e7, e8, e9, e10, e11, e14] at hK ⊢
          refine Closed.mk ?_; go_simp
          exact hK.out _ _ ⟨hA, hN, x_p, x_o, x_g, o_d⟩ trivial rfl
        · refine GoalL.mk0 (by rfl) ?_; rintro f u wq hf ⟨hA, hN, x_p, x_o, x_g, o_d⟩ hD K hK; have e0 : u 0 = _ := hD.1; have e1 : u 1 = _ := hD.2.1; have e2 : u 2 = _ := hD.2.2.1; have e3 : u 3 = _ := hD.2.2.2.1; have e4 : u 4 = _ := hD.2.2.2.2.1; have e5 : u 5 = _ := hD.2.2.2.2.2.1; have e6 : u 6 = _ := hD.2.2.2.2.2.2.1; have e7 : u 7 = _ := hD.2.2.2.2.2.2.2.1; have e8 : u 8 = _ := hD.2.2.2.2.2.2.2.2.1; have e9 : u 9 = _ := hD.2.2.2.2.2.2.2.2.2.1; have e10 : u 10 = _ := hD.2.2.2.2.2.2.2.2.2.2.1; have e11 : u 11 = _ := hD.2.2.2.2.2.2.2.2.2.2.2.1; have e14 : u 14 = _ := hD.2.2.2.2.2.2.2.2.2.2.2.2.1; clear hD; simp only [put9, e0, e1, e2, e3, e4, e5, e6, e7, e8, e9, e10, e11, e14] at hK ⊢
          refine Closed.mk ?_; go_simp
          exact hK.out _ _ ⟨hA, hN, x_p, x_o, x_g, o_d⟩ trivial rfl
        · refine GoalL.mk0 (by rfl) ?_; rintro f u wq hf ⟨hA, hN, x_p, x_o, x_g, o_d⟩ hD K hK; have e0 : u 0 = _ := hD.1; have e1 : u 1 = _ := hD.2.1; have e2 : u 2 = _ := hD.2.2.1; have e3 : u 3 = _ := hD.2.2.2.1; have e4 : u 4 = _ := hD.2.2.2.2.1; have e5 : u 5 = _ := hD.2.2.2.2.2.1; have e6 : u 6 = _ := hD.2.2.2.2.2.2.1; have e7 : u 7 = _ := hD.2.2.2.2.2.2.2.1; have e8 : u 8 = _ := hD.2.2.2.2.2.2.2.2.1; have e9 : u 9 = _ := hD.2.2.2.2.2.2.2.2.2.1; have e10 : u 10 = _ := hD.2.2.2.2.2.2.2.2.2.2.1; have e11 : u 11 = _ := hD.2.2.2.2.2.2.2.2.2.2.2.1; have e14 : u 14 = _ := hD.2.2.2.2.2.2.2.2.2.2.2.2.1; clear hD; simp only [put9, e0, e1, e2, e3, e4, e5, e6, e7, e8, e9, e10, e11, e14] at hK ⊢
          refine Closed.mk ?_; go_simp
          exact hK.out _ _ ⟨hA, hN, x_p, x_o, x_g, o_d⟩ trivial rfl
        · refine GoalL.mk0 (by rfl) ?_; rintro f u wq hf ⟨hA, hN, x_p, x_o, x_g, o_d⟩ hD K hK; have e0 : u 0 = _ := hD.1; have e1 : u 1 = _ := hD.2.1; have e2 : u 2 = _ := hD.2.2.1; have e3 : u 3 = _ := hD.2.2.2.1; have e4 : u 4 = _ := hD.2.2.2.2.1; have e5 : u 5 = _ := hD.2.2.2.2.2.1; have e6 : u 6 = _ := hD.2.2.2.2.2.2.1; have e7 : u 7 = _ := hD.2.2.2.2.2.2.2.1; have e8 : u 8 = _ := hD.2.2.2.2.2.2.2.2.1; have e9 : u 9 = _ := hD.2.2.2.2.2.2.2.2.2.1; have e10 : u 10 = _ := hD.2.2.2.2.2.2.2.2.2.2.1; have e11 : u 11 = _ := hD.2.2.2.2.2.2.2.2.2.2.2.1; clear hD; simp only [put9, e0, e1, e2, e3, e4, e5, e6, e7, e8, e9, e10, e11] at hK ⊢
          refine Closed.mk ?_; go_simp
          exact hK.out _ _ ⟨hA, hN, x_p, x_o, x_g, o_d⟩ trivial rfl
        · refine GoalL.mk0 (by rfl) ?_; rintro f u wq hf ⟨hA, hN, x_p, x_o, x_g, o_d⟩ hD K hK; have e0 : u 0 = _ := hD.1; have e1 : u 1 = _ := hD.2.1; have e2 : u 2 = _ := hD.2.2.1; have e3 : u 3 = _ := hD.2.2.2.1; have e4 : u 4 = _ := hD.2.2.2.2.1; have e5 : u 5 = _ := hD.2.2.2.2.2.1; have e6 : u 6 = _ := hD.2.2.2.2.2.2.1; have e7 : u 7 = _ := hD.2.2.2.2.2.2.2.1; have e8 : u 8 = _ := hD.2.2.2.2.2.2.2.2.1; have e9 : u 9 = _ := hD.2.2.2.2.2.2.2.2.2.1; have e10 : u 10 = _ := hD.2.2.2.2.2.2.2.2.2.2.1; have e11 : u 11 = _ := hD.2.2.2.2.2.2.2.2.2.2.2.1; have e18 : u 18 = _ := hD.2.2.2.2.2.2.2.2.2.2.2.2.1; clear hD; simp only [put9, e0, e1, e2, e3, e4, e5, e6, e7, e8, e9, e10, e11, e18] at hK ⊢
          refine Closed.mk ?_; go_simp
          exact hK.out _ _ ⟨hA, hN, x_p, x_o, x_g, o_d⟩ trivial rfl
        · refine GoalL.mk0 (by rfl) ?_; rintro f u wq hf ⟨hA, hN, x_p, x_o, x_g, o_d⟩ hD K hK; have e0 : u 0 = _ := hD.1; have e1 : u 1 = _ := hD.2.1; have e2 : u 2 = _ := hD.2.2.1; have e3 : u 3 = _ := hD.2.2.2.1; have e4 : u 4 = _ := hD.2.2.2.2.1; have e5 : u 5 = _ := hD.2.2.2.2.2.1; have e6 : u 6 = _ := hD.2.2.2.2.2.2.1; have e7 : u 7 = _ := hD.2.2.2.2.2.2.2.1; have e8 : u 8 = _ := hD.2.2.2.2.2.2.2.2.1; have e9 : u 9 = _ := hD.2.2.2.2.2.2.2.2.2.1; have e10 : u 10 = _ := hD.2.2.2.2.2.2.2.2.2.2.1; have e11 : u 11 = _ := hD.2.2.2.2.2.2.2.2.2.2.2.1; have e18 : u 18 = _ := hD.2.2.2.2.2.2.2.2.2.2.2.2.1; have e19 : u 19 = _ := hD.2.2.2.2.2.2.2.2.2.2.2.2.2.1; clear hD; simp only [put9, e0, e1, e2, e3, e4, e5, e6, e7, e8, e9, e10, e11, e18, e19] at hK ⊢
          refine Closed.mk ?_; go_simp
          exact hK.out _ _ ⟨hA, hN, x_p, x_o, x_g, o_d⟩ trivial rfl
        intro u w6 hC hD
        have hA := hC.1; have hN := hC.2.1; have x_p := hC.2.2.1; have x_o := hC.2.2.2.1; have x_g := hC.2.2.2.2.1; have o_d := hC.2.2.2.2.2; clear hC
        have e0 : u 0 = _ := hD.1; have e1 : u 1 = _ := hD.2.1; have e2 : u 2 = _ := hD.2.2.1; have e3 : u 3 = _ := hD.2.2.2.1; have e4 : u 4 = _ := hD.2.2.2.2.1; have e5 : u 5 = _ := hD.2.2.2.2.2.1; have e6 : u 6 = _ := hD.2.2.2.2.2.2.1; have e7 : u 7 = _ := hD.2.2.2.2.2.2.2.1; have e8 : u 8 = _ := hD.2.2.2.2.2.2.2.2.1; have e9 : u 9 = _ := hD.2.2.2.2.2.2.2.2.2.1; have e10 : u 10 = _ := hD.2.2.2.2.2.2.2.2.2.2.1; have e11 : u 11 = _ := hD.2.2.2.2.2.2.2.2.2.2.2.1; have e12 : u 12 = _ := hD.2.2.2.2.2.2.2.2.2.2.2.2.1; have e13 : u 13 = _ := hD.2.2.2.2.2.2.2.2.2.2.2.2.2.1; have e14 : u 14 = _ := hD.2.2.2.2.2.2.2.2.2.2.2.2.2.2.1; have e15 : u 15 = _ := hD.2.2.2.2.2.2.2.2.2.2.2.2.2.2.2.1; have e16 : u 16 = _ := hD.2.2.2.2.2.2.2.2.2.2.2.2.2.2.2.2.1; have e17 : u 17 = _ := hD.2.2.2.2.2.2.2.2.2.2.2.2.2.2.2.2.2.1; have e18 : u 18 = _ := hD.2.2.2.2.2.2.2.2.2.2.2.2.2.2.2.2.2.2.1; have e19 : u 19 = _ := hD.2.2.2.2.2.2.2.2.2.2.2.2.2.2.2.2.2.2.2.1; have e20 : u 20 = _ := hD.2.2.2.2.2.2.2.2.2.2.2.2.2.2.2.2.2.2.2.2.1; clear hD
        have B6 := Lib.hid hA; have N6 := hN; have S6 := hA.size
        have Xp_6 := Lib.hid x_p; clear x_p
        have Xo_6 := Lib.hid x_o; clear x_o
        have Xg_6 := Lib.hid x_g; clear x_g
        have Od_6 := Lib.hid o_d; clear o_d
        obtain ⟨cp6_0, cp6_1, cp6_2, cp6_3, cp6_4, fp6_0, fp6_1, fp6_2, fp6_3, fp6_4⟩ := box5 Xp_6.out; have lp6 := heap_lt Xp_6.out
        obtain ⟨co6_0, co6_1, co6_2, fo6_0, fo6_1, fo6_2⟩ := box3 Xo_6.out; have lo6 := heap_lt Xo_6.out
        obtain ⟨cg6_0, cg6_1, cg6_2, fg6_0, fg6_1, fg6_2⟩ := box3 Xg_6.out; have lg6 := heap_lt Xg_6.out
        clear hA hN
        simp only [put9, e0, e1, e2, e3, e4, e5, e6, e7, e8, e9, e10, e11, e12, e13, e14, e15, e16, e17, e18, e19, e20]
        refine Closed.mk (wpAnyH_done (by kernel_rfl) ?_ _)
        go_wp2_with (fail)
        refine (DrawParseOp_calls _ ms _ (Row.below H1.out B6.out) HM.out).mono ?_
        rintro e w7 ⟨t, rfl, ht, hb⟩
        have B7 := Lib.hid (Below.trans B6.out (hb.mono (by first | omega | (simp only [szA, szS, szD, World.heap_drewN] at * <;> omega))) : Below w.heap.size w w7)
        have Z7 := hb.size
        have N7 : w6.heap.size ≤ w7.heap.size := (by first | with_reducible exact Z7 | (simp only [szA, szS, szD] at Z7; omega))
        clear Z7
        clear hb
        have S7 : w.heap.size ≤ w7.heap.size := (by omega)
        have q1 : (t.toList == t.toList) = true := beq_self_eq_true _
        go_wp2_with (fail)
        refine (ParseOp_calls t _ (HL.out.below B7.out) (by omega)).mono ?_
        rintro e w8 ⟨r2, rfl, hr, hb⟩
        have B8 := Lib.hid (Below.trans B7.out (hb.mono (by first | omega | (simp only [szA, szS, szD, World.heap_drewN] at * <;> omega))) : Below w.heap.size w w8)
        have Z8 := hb.size
        have N8 : w7.heap.size ≤ w8.heap.size := (by first | with_reducible exact Z8 | (simp only [szA, szS, szD] at Z8; omega))
        clear Z8
        clear hb
        have S8 : w.heap.size ≤ w8.heap.size := (by omega)
        have HR := Lib.hid hr; clear hr
        rcases r2 with _ | ⟨z0, z1, z2⟩
        · go_wp2_with (fail)
          refine (sParseOp_calls t _ (by omega)).mono ?_
          rintro e w9 ⟨r3, rfl, hr, hb⟩
          have B9 := Lib.hid (Below.trans (Below.alloc B8.out (by first | omega | (simp only [szA, szS, szD, World.heap_drewN] at * <;> omega)) _) (hb.mono (by first | omega | (simp only [szA, szS, szD, World.heap_drewN] at * <;> omega))) : Below w.heap.size w w9)
          have Z9 := hb.size
          have N9 : w8.heap.size + 1 ≤ w9.heap.size := (by first | with_reducible exact Z9 | (simp only [szA, szS, szD] at Z9; omega))
          clear Z9
          have Xg2_9 : Hid (w9.heap[w8.heap.size]? = some (.cells #[.int .i64 0, .int .i64 0, .int .i64 0] 23 (0, 0))) := below_at hb (heap_at' (n := w8.heap.size) (by first | omega | (simp only [szA, szS, szD, World.heap_drewN] at * <;> omega)))
          clear hb
          obtain ⟨cg29_0, cg29_1, cg29_2, fg29_0, fg29_1, fg29_2⟩ := box3 Xg2_9.out; have lg29 := heap_lt Xg2_9.out
          have S9 : w.heap.size ≤ w9.heap.size := (by omega)
          obtain rfl := ParEnd.one HR.out hr
          clear hr
          go_wp2
          go_ret
          exact ⟨rfl, Below.mono (Below.alloc B9.out (by first | omega | (simp only [szA, szS, szD, World.heap_drewN] at * <;> omega)) _) (Nat.le_refl _)⟩
        · rw [opv_some, some_some]
          have hpb : ParB t (z0, z1, z2) := HR.out
          have HZ1 := Lib.hid hpb.inB.1; have HZ2 := Lib.hid hpb.inB.2; have HT := Lib.hid (show opText (z0, z1, z2) = t from by obtain ⟨_, _, _, _, _, _, h9⟩ := hpb; exact h9); clear hpb
          go_wp2_with (fail)
          refine (sParseOp_calls t _ (by omega)).mono ?_
          rintro e w9 ⟨r3, rfl, hr, hb⟩
          have B9 := Lib.hid (Below.trans (Below.alloc B8.out (by first | omega | (simp only [szA, szS, szD, World.heap_drewN] at * <;> omega)) _) (hb.mono (by first | omega | (simp only [szA, szS, szD, World.heap_drewN] at * <;> omega))) : Below w.heap.size w w9)
          have Z9 := hb.size
          have N9 : w8.heap.size + 1 ≤ w9.heap.size := (by first | with_reducible exact Z9 | (simp only [szA, szS, szD] at Z9; omega))
          clear Z9
          have Xg2_9 : Hid (w9.heap[w8.heap.size]? = some (.cells #[.int .i64 z0, .int .i64 z1, .int .i64 z2] 23 (0, 0))) := below_at hb (heap_at' (n := w8.heap.size) (by first | omega | (simp only [szA, szS, szD, World.heap_drewN] at * <;> omega)))
          clear hb
          obtain ⟨cg29_0, cg29_1, cg29_2, fg29_0, fg29_1, fg29_2⟩ := box3 Xg2_9.out; have lg29 := heap_lt Xg2_9.out
          have S9 : w.heap.size ≤ w9.heap.size := (by omega)
          obtain rfl := ParEnd.one HR.out hr
          clear hr
          rw [opv_some, some_some]
          go_wp2_with (fail)
          refine (FormatOp_calls (z0, z1, z2) _ (HL.out.1.below (Below.alloc B9.out (by first | omega | (simp only [szA, szS, szD, World.heap_drewN] at * <;> omega)) _)) HZ1.out HZ2.out).mono ?_
          rw [HT.out]
          rintro e w10 ⟨rfl, hb⟩
          have B10 := Lib.hid (Below.trans (Below.alloc B9.out (by first | omega | (simp only [szA, szS, szD, World.heap_drewN] at * <;> omega)) _) (hb.mono (by first | omega | (simp only [szA, szS, szD, World.heap_drewN] at * <;> omega))) : Below w.heap.size w w10)
          have Z10 := hb.size
          have N10 : w9.heap.size + 1 ≤ w10.heap.size := (by first | with_reducible exact Z10 | (simp only [szA, szS, szD] at Z10; omega))
          clear Z10
          have Xg2_10 := Lib.hid (below_at hb (heap_up Xg2_9.out))
          have Xw2_10 : Hid (w10.heap[w9.heap.size]? = some (.cells #[.int .i64 z0, .int .i64 z1, .int .i64 z2] 23 (0, 0))) := below_at hb (heap_at' (n := w9.heap.size) (by first | omega | (simp only [szA, szS, szD, World.heap_drewN] at * <;> omega)))
          clear hb
          obtain ⟨cg210_0, cg210_1, cg210_2, fg210_0, fg210_1, fg210_2⟩ := box3 Xg2_10.out; have lg210 := heap_lt Xg2_10.out
          obtain ⟨cw210_0, cw210_1, cw210_2, fw210_0, fw210_1, fw210_2⟩ := box3 Xw2_10.out; have lw210 := heap_lt Xw2_10.out
          have S10 : w.heap.size ≤ w10.heap.size := (by omega)
          clear cg29_0 cg29_1 cg29_2 fg29_0 fg29_1 fg29_2
          go_wp2
          go_ret
          exact ⟨rfl, B10.out⟩
      · have HV := Lib.hid hv; clear hv
        go_wp2_with (fail)
        refine (ParseOp_calls s _ (HL.out.below (Below.alloc (Below.alloc B4.out (by first | omega | (simp only [szA, szS, szD, World.heap_drewN] at * <;> omega)) _) (by first | omega | (simp only [szA, szS, szD, World.heap_drewN] at * <;> omega)) _)) (by omega)).mono ?_
        rintro e w5 ⟨r, rfl, hr, hb⟩
        have B5 := Lib.hid (Below.trans (Below.alloc (Below.alloc B4.out (by first | omega | (simp only [szA, szS, szD, World.heap_drewN] at * <;> omega)) _) (by first | omega | (simp only [szA, szS, szD, World.heap_drewN] at * <;> omega)) _) (hb.mono (by first | omega | (simp only [szA, szS, szD, World.heap_drewN] at * <;> omega))) : Below w.heap.size w w5)
        have Z5 := hb.size
        have N5 : w4.heap.size + 2 ≤ w5.heap.size := (by first | with_reducible exact Z5 | (simp only [szA, szS, szD] at Z5; omega))
        clear Z5
        have Xo_5 := Lib.hid (below_at hb (heap_up (heap_up Xo_4.out)))
        have Xp_5 : Hid (w5.heap[w4.heap.size]? = some (.cells #[.slice ad0 c.sems.length pd0, .slice ad1 c.groups.length pd1, .slice ad2 c.barriers.length pd2, .slice ad3 c.rooms.length pd3, .slice ad4 c.threads.length pd4] 34 (0, 0))) := below_at hb (heap_up (heap_at' (n := w4.heap.size) (by first | omega | (simp only [szA, szS, szD, World.heap_drewN] at * <;> omega))))
        have Xy_5 : Hid (w5.heap[w4.heap.size + 1]? = some (.cells #[.int .i64 y0, .int .i64 y1, .int .i64 y2] 23 (0, 0))) := below_at hb (heap_at' (n := w4.heap.size + 1) (by first | omega | (simp only [szA, szS, szD, World.heap_drewN] at * <;> omega)))
        have Od_5 := Lib.hid (((Od_4.out.alloc _).alloc _).kept hb)
        clear hb
        obtain ⟨co5_0, co5_1, co5_2, fo5_0, fo5_1, fo5_2⟩ := box3 Xo_5.out; have lo5 := heap_lt Xo_5.out
        obtain ⟨cp5_0, cp5_1, cp5_2, cp5_3, cp5_4, fp5_0, fp5_1, fp5_2, fp5_3, fp5_4⟩ := box5 Xp_5.out; have lp5 := heap_lt Xp_5.out
        obtain ⟨cy5_0, cy5_1, cy5_2, fy5_0, fy5_1, fy5_2⟩ := box3 Xy_5.out; have ly5 := heap_lt Xy_5.out
        have S5 : w.heap.size ≤ w5.heap.size := (by omega)
        clear co4_0 co4_1 co4_2 fo4_0 fo4_1 fo4_2
        have hpb : ParEnd s (some (x0, x1, x2)) := (by have h9 := parB_valid (of_decide_eq_true HV.out) HSM.out; rw [HS.out] at h9; exact h9)
        obtain rfl : some (x0, x1, x2) = r := ParEnd.one hpb hr
        clear hr hpb
        go_wp2_with (fail)
        obtain ⟨hi_d, HI_d⟩ : ∃ hi, ProgOwn w.heap.size hi (w5.alloc (.cells #[.int .i64 x0, .int .i64 x1, .int .i64 x2] 23)) (.agg #[.slice ad0 c.sems.length pd0, .slice ad1 c.groups.length pd1, .slice ad2 c.barriers.length pd2, .slice ad3 c.rooms.length pd3, .slice ad4 c.threads.length pd4]) c := ⟨_, (Od_5.out.alloc _)⟩
        have hN0 : w5.heap.size + 1 ≤ (w5.alloc (.cells #[.int .i64 x0, .int .i64 x1, .int .i64 x2] 23)).heap.size := (by first | omega | (simp only [szA, szS, szD, World.heap_drewN] at * <;> omega))
        refine wp_region_L [⟨0, false, [], fun _ v _ => v = .agg #[.slice ad0 c.sems.length pd0, .slice ad1 c.groups.length pd1, .slice ad2 c.barriers.length pd2, .slice ad3 c.rooms.length pd3, .slice ad4 c.threads.length pd4]⟩, ⟨1, false, [], fun _ v _ => v = .agg #[.int .i64 x0, .int .i64 x1, .int .i64 x2]⟩, ⟨2, false, [0, 1], fun _ v _ => v = .bool true⟩, ⟨3, false, [], fun _ v _ => v = .agg #[.slice ad0 c.sems.length pd0, .slice ad1 c.groups.length pd1, .slice ad2 c.barriers.length pd2, .slice ad3 c.rooms.length pd3, .slice ad4 c.threads.length pd4]⟩, ⟨4, false, [], fun _ v _ => v = .agg #[.int .i64 x0, .int .i64 x1, .int .i64 x2]⟩, ⟨5, false, [3, 4], fun _ v _ => v = .bool true⟩, ⟨6, false, [0, 1, 2, 3, 4, 5], fun _ v _ => v = .bool false⟩, ⟨7, false, [0, 1, 2, 3, 4, 5, 6], fun _ v _ => v = .bool false⟩, ⟨8, false, [0, 1, 2, 3, 4, 5, 6, 7], fun _ v _ => v = .agg #[.slice ad0 c.sems.length pd0, .slice ad1 c.groups.length pd1, .slice ad2 c.barriers.length pd2, .slice ad3 c.rooms.length pd3, .slice ad4 c.threads.length pd4]⟩, ⟨9, false, [0, 1, 2, 3, 4, 5, 6, 7], fun _ v _ => v = .agg #[.int .i64 x0, .int .i64 x1, .int .i64 x2]⟩, ⟨10, false, [0, 1, 2, 3, 4, 5, 6, 7, 8, 9], fun _ v _ => v = .bool true⟩, ⟨11, false, [0, 1, 2, 3, 4, 5, 6, 7, 8, 9, 10], fun _ v _ => v = .bool true⟩, ⟨12, false, [0, 1, 2, 3, 4, 5, 6, 7, 8, 9, 10, 11], fun _ v _ => v = .bool true⟩, ⟨13, false, [0, 1, 2, 3, 4, 5, 6, 7, 8, 9, 10, 11, 12], fun _ v _ => v = .bool false⟩, ⟨14, false, [0, 1, 2, 3, 4, 5, 6, 7, 8, 9, 10, 11, 12, 13], fun _ v _ => v = .bool false⟩, ⟨15, false, [0, 1, 2, 3, 4, 5, 6, 7, 8, 9, 10, 11, 12, 13, 14], fun _ v _ => v = .agg #[.int .i64 x0, .int .i64 x1, .int .i64 x2]⟩, ⟨16, false, [0, 1, 2, 3, 4, 5, 6, 7, 8, 9, 10, 11, 12, 13, 14], fun _ v _ => v = .agg #[.int .i64 x0, .int .i64 x1, .int .i64 x2]⟩, ⟨17, false, [0, 1, 2, 3, 4, 5, 6, 7, 8, 9, 10, 11, 12, 13, 14, 15, 16], fun _ v _ => v = .bool false⟩, ⟨18, false, [0, 1, 2, 3, 4, 5, 6, 7, 8, 9, 10, 11, 12, 13, 14, 15, 16, 17], fun _ v _ => v = .bool false⟩, ⟨19, false, [0, 1, 2, 3, 4, 5, 6, 7, 8, 9, 10, 11, 12, 13, 14, 15, 16, 17, 18], fun _ v _ => v = .bool false⟩, ⟨20, false, [0, 1, 2, 3, 4, 5, 6, 7, 8, 9, 10, 11, 12, 13, 14, 15, 16, 17, 18, 19], fun _ v _ => v = .bool false⟩] [(0, some 42), (1, some 43), (2, some 44), (3, some 45), (4, some 46), (5, some 47), (6, some 48), (7, some 49), (8, some 50), (9, some 51), (10, some 52), (11, some 53), (12, some 54), (13, some 55), (14, some 56), (15, some 57), (16, some 58), (17, some 59), (18, some 60), (19, some 61), (20, some 62)] (fun _ w' => Below w.heap.size w w' ∧ w5.heap.size + 1 ≤ w'.heap.size ∧ w'.heap[w4.heap.size]? = some (.cells #[.slice ad0 c.sems.length pd0, .slice ad1 c.groups.length pd1, .slice ad2 c.barriers.length pd2, .slice ad3 c.rooms.length pd3, .slice ad4 c.threads.length pd4] 34 (0, 0)) ∧ w'.heap[w1.heap.size]? = some (.cells #[.int .i64 x0, .int .i64 x1, .int .i64 x2] 23 (0, 0)) ∧ w'.heap[w5.heap.size]? = some (.cells #[.int .i64 x0, .int .i64 x1, .int .i64 x2] 23 (0, 0)) ∧ ProgOwn w.heap.size hi_d w' (.agg #[.slice ad0 c.sems.length pd0, .slice ad1 c.groups.length pd1, .slice ad2 c.barriers.length pd2, .slice ad3 c.rooms.length pd3, .slice ad4 c.threads.length pd4]) c) (fun _ _ _ => True) (by kernel_rfl) (by rfl) (by kernel_rfl) (by kernel_rfl) ⟨((Below.alloc B5.out (by first | omega | (simp only [szA, szS, szD, World.heap_drewN] at * <;> omega)) _)).drew, hN0, (heap_drew (heap_up Xp_5.out)), (heap_drew (heap_up Xo_5.out)), (heap_drew (heap_at' (n := w5.heap.size) (by first | omega | (simp only [szA, szS, szD, World.heap_drewN] at * <;> omega)))), HI_d⟩ (GoalsL.cons ?_ (GoalsL.cons ?_ (GoalsL.cons ?_ (GoalsL.cons ?_ (GoalsL.cons ?_ (GoalsL.cons ?_ (GoalsL.cons ?_ (GoalsL.cons ?_ (GoalsL.cons ?_ (GoalsL.cons ?_ (GoalsL.cons ?_ (GoalsL.cons ?_ (GoalsL.cons ?_ (GoalsL.cons ?_ (GoalsL.cons ?_ (GoalsL.cons ?_ (GoalsL.cons ?_ (GoalsL.cons ?_ (GoalsL.cons ?_ (GoalsL.cons ?_ (GoalsL.cons ?_ (GoalsL.nil)))))))))))))))))))))) ?_
        · refine GoalL.mk0 (by rfl) ?_; rintro f u wq hf ⟨hA, hN, x_p, x_o, x_g, o_d⟩ hD K hK; clear hD; simp only [put9] at hK ⊢
          obtain ⟨kp_0, kp_1, kp_2, kp_3, kp_4, fp_0, fp_1, fp_2, fp_3, fp_4⟩ := box5 x_p; refine Closed.mk ?_; go_simp
          exact hK.out _ _ ⟨hA, hN, x_p, x_o, x_g, o_d⟩ trivial rfl
        · refine GoalL.mk0 (by rfl) ?_; rintro f u wq hf ⟨hA, hN, x_p, x_o, x_g, o_d⟩ hD K hK; clear hD; simp only [put9] at hK ⊢
          obtain ⟨ko_0, ko_1, ko_2, fo_0, fo_1, fo_2⟩ := box3 x_o; refine Closed.mk ?_; go_simp
          exact hK.out _ _ ⟨hA, hN, x_p, x_o, x_g, o_d⟩ trivial rfl
        · refine GoalL.mk0 (by rfl) ?_; rintro f u wq hf ⟨hA, hN, x_p, x_o, x_g, o_d⟩ hD K hK; have e0 : u 0 = _ := hD.1; have e1 : u 1 = _ := hD.2.1; clear hD; simp only [put9, e0, e1] at hK ⊢
          refine Closed.mk ?_; go_simp
          refine (OpValidO _ c (x0, x1, x2) _ (o_d.row)).mono ?_
          rw [HV.out]
          rintro e wr ⟨rfl, hb⟩
          exact hK.out _ _ ⟨Below.trans hA (hb.mono hA.size), Nat.le_trans hN hb.size, (below_at hb x_p), (below_at hb x_o), (below_at hb x_g), (o_d.kept hb)⟩ trivial rfl
        · refine GoalL.mk0 (by rfl) ?_; rintro f u wq hf ⟨hA, hN, x_p, x_o, x_g, o_d⟩ hD K hK; clear hD; simp only [put9] at hK ⊢
          obtain ⟨kp_0, kp_1, kp_2, kp_3, kp_4, fp_0, fp_1, fp_2, fp_3, fp_4⟩ := box5 x_p; refine Closed.mk ?_; go_simp
          exact hK.out _ _ ⟨hA, hN, x_p, x_o, x_g, o_d⟩ trivial rfl
        · refine GoalL.mk0 (by rfl) ?_; rintro f u wq hf ⟨hA, hN, x_p, x_o, x_g, o_d⟩ hD K hK; clear hD; simp only [put9] at hK ⊢
          obtain ⟨ko_0, ko_1, ko_2, fo_0, fo_1, fo_2⟩ := box3 x_o; refine Closed.mk ?_; go_simp
          exact hK.out _ _ ⟨hA, hN, x_p, x_o, x_g, o_d⟩ trivial rfl
        · refine GoalL.mk0 (by rfl) ?_; rintro f u wq hf ⟨hA, hN, x_p, x_o, x_g, o_d⟩ hD K hK; have e3 : u 3 = _ := hD.1; have e4 : u 4 = _ := hD.2.1; clear hD; simp only [put9, e3, e4] at hK ⊢
          refine Closed.mk ?_; go_simp
          refine (sOpValidO _ c (x0, x1, x2) _ (o_d.row)).mono ?_
          rw [HV.out]
          rintro e wr ⟨rfl, hb⟩
          exact hK.out _ _ ⟨Below.trans hA (hb.mono hA.size), Nat.le_trans hN hb.size, (below_at hb x_p), (below_at hb x_o), (below_at hb x_g), (o_d.kept hb)⟩ trivial rfl
        · refine GoalL.mk0 (by rfl) ?_; rintro f u wq hf ⟨hA, hN, x_p, x_o, x_g, o_d⟩ hD K hK; have e0 : u 0 = _ := hD.1; have e1 : u 1 = _ := hD.2.1; have e2 : u 2 = _ := hD.2.2.1; have e3 : u 3 = _ := hD.2.2.2.1; have e4 : u 4 = _ := hD.2.2.2.2.1; have e5 : u 5 = _ := hD.2.2.2.2.2.1; clear hD; simp only [put9, e0, e1, e2, e3, e4, e5] at hK ⊢
          refine Closed.mk ?_; go_simp
          exact hK.out _ _ ⟨hA, hN, x_p, x_o, x_g, o_d⟩ trivial rfl
        · refine GoalL.mk0 (by rfl) ?_; rintro f u wq hf ⟨hA, hN, x_p, x_o, x_g, o_d⟩ hD K hK; have e0 : u 0 = _ := hD.1; have e1 : u 1 = _ := hD.2.1; have e2 : u 2 = _ := hD.2.2.1; have e3 : u 3 = _ := hD.2.2.2.1; have e4 : u 4 = _ := hD.2.2.2.2.1; have e5 : u 5 = _ := hD.2.2.2.2.2.1; have e6 : u 6 = _ := hD.2.2.2.2.2.2.1; clear hD; simp only [put9, e0, e1, e2, e3, e4, e5, e6] at hK ⊢
          refine Closed.mk ?_; go_simp
          exact hK.out _ _ ⟨hA, hN, x_p, x_o, x_g, o_d⟩ trivial rfl
        · refine GoalL.mk0 (by rfl) ?_; rintro f u wq hf ⟨hA, hN, x_p, x_o, x_g, o_d⟩ hD K hK; have e0 : u 0 = _ := hD.1; have e1 : u 1 = _ := hD.2.1; have e2 : u 2 = _ := hD.2.2.1; have e3 : u 3 = _ := hD.2.2.2.1; have e4 : u 4 = _ := hD.2.2.2.2.1; have e5 : u 5 = _ := hD.2.2.2.2.2.1; have e6 : u 6 = _ := hD.2.2.2.2.2.2.1; have e7 : u 7 = _ := hD.2.2.2.2.2.2.2.1; clear hD; simp only [put9, e0, e1, e2, e3, e4, e5, e6, e7] at hK ⊢
          obtain ⟨kp_0, kp_1, kp_2, kp_3, kp_4, fp_0, fp_1, fp_2, fp_3, fp_4⟩ := box5 x_p; refine Closed.mk ?_; go_simp
          exact hK.out _ _ ⟨hA, hN, x_p, x_o, x_g, o_d⟩ trivial rfl
        · refine GoalL.mk0 (by rfl) ?_; rintro f u wq hf ⟨hA, hN, x_p, x_o, x_g, o_d⟩ hD K hK; have e0 : u 0 = _ := hD.1; have e1 : u 1 = _ := hD.2.1; have e2 : u 2 = _ := hD.2.2.1; have e3 : u 3 = _ := hD.2.2.2.1; have e4 : u 4 = _ := hD.2.2.2.2.1; have e5 : u 5 = _ := hD.2.2.2.2.2.1; have e6 : u 6 = _ := hD.2.2.2.2.2.2.1; have e7 : u 7 = _ := hD.2.2.2.2.2.2.2.1; clear hD; simp only [put9, e0, e1, e2, e3, e4, e5, e6, e7] at hK ⊢
          obtain ⟨ko_0, ko_1, ko_2, fo_0, fo_1, fo_2⟩ := box3 x_o; refine Closed.mk ?_; go_simp
          exact hK.out _ _ ⟨hA, hN, x_p, x_o, x_g, o_d⟩ trivial rfl
        · refine GoalL.mk0 (by rfl) ?_; rintro f u wq hf ⟨hA, hN, x_p, x_o, x_g, o_d⟩ hD K hK; have e0 : u 0 = _ := hD.1; have e1 : u 1 = _ := hD.2.1; have e2 : u 2 = _ := hD.2.2.1; have e3 : u 3 = _ := hD.2.2.2.1; have e4 : u 4 = _ := hD.2.2.2.2.1; have e5 : u 5 = _ := hD.2.2.2.2.2.1; have e6 : u 6 = _ := hD.2.2.2.2.2.2.1; have e7 : u 7 = _ := hD.2.2.2.2.2.2.2.1; have e8 : u 8 = _ := hD.2.2.2.2.2.2.2.2.1; have e9 : u 9 = _ := hD.2.2.2.2.2.2.2.2.2.1; clear hD; simp only [put9, e0, e1, e2, e3, e4, e5, e6, e7, e8, e9] at hK ⊢
          refine Closed.mk ?_; go_simp
          refine (OpValidO _ c (x0, x1, x2) _ (o_d.row)).mono ?_
          rw [HV.out]
          rintro e wr ⟨rfl, hb⟩
          exact hK.out _ _ ⟨Below.trans hA (hb.mono hA.size), Nat.le_trans hN hb.size, (below_at hb x_p), (below_at hb x_o), (below_at hb x_g), (o_d.kept hb)⟩ trivial rfl
        · refine GoalL.mk0 (by rfl) ?_; rintro f u wq hf ⟨hA, hN, x_p, x_o, x_g, o_d⟩ hD K hK; have e0 : u 0 = _ := hD.1; have e1 : u 1 = _ := hD.2.1; have e2 : u 2 = _ := hD.2.2.1; have e3 : u 3 = _ := hD.2.2.2.1; have e4 : u 4 = _ := hD.2.2.2.2.1; have e5 : u 5 = _ := hD.2.2.2.2.2.1; have e6 : u 6 = _ := hD.2.2.2.2.2.2.1; have e7 : u 7 = _ := hD.2.2.2.2.2.2.2.1; have e8 : u 8 = _ := hD.2.2.2.2.2.2.2.2.1; have e9 : u 9 = _ := hD.2.2.2.2.2.2.2.2.2.1; have e10 : u 10 = _ := hD.2.2.2.2.2.2.2.2.2.2.1; clear hD; simp only [put9, e0, e1, e2, e3, e4, e5, e6, e7, e8, e9, e10] at hK ⊢
          refine Closed.mk ?_; go_simp
          exact hK.out _ _ ⟨hA, hN, x_p, x_o, x_g, o_d⟩ trivial rfl
        · refine GoalL.mk0 (by rfl) ?_; rintro f u wq hf ⟨hA, hN, x_p, x_o, x_g, o_d⟩ hD K hK; have e0 : u 0 = _ := hD.1; have e1 : u 1 = _ := hD.2.1; have e2 : u 2 = _ := hD.2.2.1; have e3 : u 3 = _ := hD.2.2.2.1; have e4 : u 4 = _ := hD.2.2.2.2.1; have e5 : u 5 = _ := hD.2.2.2.2.2.1; have e6 : u 6 = _ := hD.2.2.2.2.2.2.1; have e7 : u 7 = _ := hD.2.2.2.2.2.2.2.1; have e8 : u 8 = _ := hD.2.2.2.2.2.2.2.2.1; have e9 : u 9 = _ := hD.2.2.2.2.2.2.2.2.2.1; have e10 : u 10 = _ := hD.2.2.2.2.2.2.2.2.2.2.1; have e11 : u 11 = _ := hD.2.2.2.2.2.2.2.2.2.2.2.1; clear hD; simp only [put9, e0, e1, e2, e3, e4, e5, e6, e7, e8, e9, e10, e11] at hK ⊢
          refine Closed.mk ?_; go_simp
          exact hK.out _ _ ⟨hA, hN, x_p, x_o, x_g, o_d⟩ trivial rfl
        · refine GoalL.mk0 (by rfl) ?_; rintro f u wq hf ⟨hA, hN, x_p, x_o, x_g, o_d⟩ hD K hK; have e0 : u 0 = _ := hD.1; have e1 : u 1 = _ := hD.2.1; have e2 : u 2 = _ := hD.2.2.1; have e3 : u 3 = _ := hD.2.2.2.1; have e4 : u 4 = _ := hD.2.2.2.2.1; have e5 : u 5 = _ := hD.2.2.2.2.2.1; have e6 : u 6 = _ := hD.2.2.2.2.2.2.1; have e7 : u 7 = _ := hD.2.2.2.2.2.2.2.1; have e8 : u 8 = _ := hD.2.2.2.2.2.2.2.2.1; have e9 : u 9 = _ := hD.2.2.2.2.2.2.2.2.2.1; have e10 : u 10 = _ := hD.2.2.2.2.2.2.2.2.2.2.1; have e11 : u 11 = _ := hD.2.2.2.2.2.2.2.2.2.2.2.1; have e12 : u 12 = _ := hD.2.2.2.2.2.2.2.2.2.2.2.2.1; clear hD; simp only [put9, e0, e1, e2, e3, e4, e5, e6, e7, e8, e9, e10, e11, e12] at hK ⊢
          refine Closed.mk ?_; go_simp
          exact hK.out _ _ ⟨hA, hN, x_p, x_o, x_g, o_d⟩ trivial rfl
        · refine GoalL.mk0 (by rfl) ?_; rintro f u wq hf ⟨hA, hN, x_p, x_o, x_g, o_d⟩ hD K hK; have e0 : u 0 = _ := hD.1; have e1 : u 1 = _ := hD.2.1; have e2 : u 2 = _ := hD.2.2.1; have e3 : u 3 = _ := hD.2.2.2.1; have e4 : u 4 = _ := hD.2.2.2.2.1; have e5 : u 5 = _ := hD.2.2.2.2.2.1; have e6 : u 6 = _ := hD.2.2.2.2.2.2.1; have e7 : u 7 = _ := hD.2.2.2.2.2.2.2.1; have e8 : u 8 = _ := hD.2.2.2.2.2.2.2.2.1; have e9 : u 9 = _ := hD.2.2.2.2.2.2.2.2.2.1; have e10 : u 10 = _ := hD.2.2.2.2.2.2.2.2.2.2.1; have e11 : u 11 = _ := hD.2.2.2.2.2.2.2.2.2.2.2.1; have e12 : u 12 = _ := hD.2.2.2.2.2.2.2.2.2.2.2.2.1; have e13 : u 13 = _ := hD.2.2.2.2.2.2.2.2.2.2.2.2.2.1; clear hD; simp only [put9, e0, e1, e2, e3, e4, e5, e6, e7, e8, e9, e10, e11, e12, e13] at hK ⊢
          refine Closed.mk ?_; go_simp
          exact hK.out _ _ ⟨hA, hN, x_p, x_o, x_g, o_d⟩ trivial rfl
        · refine GoalL.mk0 (by rfl) ?_; rintro f u wq hf ⟨hA, hN, x_p, x_o, x_g, o_d⟩ hD K hK; have e0 : u 0 = _ := hD.1; have e1 : u 1 = _ := hD.2.1; have e2 : u 2 = _ := hD.2.2.1; have e3 : u 3 = _ := hD.2.2.2.1; have e4 : u 4 = _ := hD.2.2.2.2.1; have e5 : u 5 = _ := hD.2.2.2.2.2.1; have e6 : u 6 = _ := hD.2.2.2.2.2.2.1; have e7 : u 7 = _ := hD.2.2.2.2.2.2.2.1; have e8 : u 8 = _ := hD.2.2.2.2.2.2.2.2.1; have e9 : u 9 = _ := hD.2.2.2.2.2.2.2.2.2.1; have e10 : u 10 = _ := hD.2.2.2.2.2.2.2.2.2.2.1; have e11 : u 11 = _ := hD.2.2.2.2.2.2.2.2.2.2.2.1; have e12 : u 12 = _ := hD.2.2.2.2.2.2.2.2.2.2.2.2.1; have e13 : u 13 = _ := hD.2.2.2.2.2.2.2.2.2.2.2.2.2.1; have e14 : u 14 = _ := hD.2.2.2.2.2.2.2.2.2.2.2.2.2.2.1; clear hD; simp only [put9, e0, e1, e2, e3, e4, e5, e6, e7, e8, e9, e10, e11, e12, e13, e14] at hK ⊢
          obtain ⟨kg_0, kg_1, kg_2, fg_0, fg_1, fg_2⟩ := box3 x_g; refine Closed.mk ?_; go_simp
          exact hK.out _ _ ⟨hA, hN, x_p, x_o, x_g, o_d⟩ trivial rfl
        · refine GoalL.mk0 (by rfl) ?_; rintro f u wq hf ⟨hA, hN, x_p, x_o, x_g, o_d⟩ hD K hK; have e0 : u 0 = _ := hD.1; have e1 : u 1 = _ := hD.2.1; have e2 : u 2 = _ := hD.2.2.1; have e3 : u 3 = _ := hD.2.2.2.1; have e4 : u 4 = _ := hD.2.2.2.2.1; have e5 : u 5 = _ := hD.2.2.2.2.2.1; have e6 : u 6 = _ := hD.2.2.2.2.2.2.1; have e7 : u 7 = _ := hD.2.2.2.2.2.2.2.1; have e8 : u 8 = _ := hD.2.2.2.2.2.2.2.2.1; have e9 : u 9 = _ := hD.2.2.2.2.2.2.2.2.2.1; have e10 : u 10 = _ := hD.2.2.2.2.2.2.2.2.2.2.1; have e11 : u 11 = _ := hD.2.2.2.2.2.2.2.2.2.2.2.1; have e12 : u 12 = _ := hD.2.2.2.2.2.2.2.2.2.2.2.2.1; have e13 : u 13 = _ := hD.2.2.2.2.2.2.2.2.2.2.2.2.2.1; have e14 : u 14 = _ := hD.2.2.2.2.2.2.2.2.2.2.2.2.2.2.1; clear hD; simp only [put9, e0, e1, e2, e3, e4, e5, e6, e7, e8, e9, e10, e11, e12, e13, e14] at hK ⊢
          obtain ⟨ko_0, ko_1, ko_2, fo_0, fo_1, fo_2⟩ := box3 x_o; refine Closed.mk ?_; go_simp
          exact hK.out _ _ ⟨hA, hN, x_p, x_o, x_g, o_d⟩ trivial rfl
        · refine GoalL.mk0 (by rfl) ?_; rintro f u wq hf ⟨hA, hN, x_p, x_o, x_g, o_d⟩ hD K hK; have e0 : u 0 = _ := hD.1; have e1 : u 1 = _ := hD.2.1; have e2 : u 2 = _ := hD.2.2.1; have e3 : u 3 = _ := hD.2.2.2.1; have e4 : u 4 = _ := hD.2.2.2.2.1; have e5 : u 5 = _ := hD.2.2.2.2.2.1; have e6 : u 6 = _ := hD.2.2.2.2.2.2.1; have e7 : u 7 = _ := hD.2.2.2.2.2.2.2.1; have e8 : u 8 = _ := hD.2.2.2.2.2.2.2.2.1; have e9 : u 9 = _ := hD.2.2.2.2.2.2.2.2.2.1; have e10 : u 10 = _ := hD.2.2.2.2.2.2.2.2.2.2.1; have e11 : u 11 = _ := hD.2.2.2.2.2.2.2.2.2.2.2.1; have e12 : u 12 = _ := hD.2.2.2.2.2.2.2.2.2.2.2.2.1; have e13 : u 13 = _ := hD.2.2.2.2.2.2.2.2.2.2.2.2.2.1; have e14 : u 14 = _ := hD.2.2.2.2.2.2.2.2.2.2.2.2.2.2.1; have e15 : u 15 = _ := hD.2.2.2.2.2.2.2.2.2.2.2.2.2.2.2.1; have e16 : u 16 = _ := hD.2.2.2.2.2.2.2.2.2.2.2.2.2.2.2.2.1; clear hD; simp only [put9, e0, e1, e2, e3, e4, e5, e6, e7, e8, e9, e10, e11, e12, e13, e14, e15, e16] at hK ⊢
          refine Closed.mk ?_; go_simp
          exact hK.out _ _ ⟨hA, hN, x_p, x_o, x_g, o_d⟩ trivial rfl
        · refine GoalL.mk0 (by rfl) ?_; rintro f u wq hf ⟨hA, hN, x_p, x_o, x_g, o_d⟩ hD K hK; have e0 : u 0 = _ := hD.1; have e1 : u 1 = _ := hD.2.1; have e2 : u 2 = _ := hD.2.2.1; have e3 : u 3 = _ := hD.2.2.2.1; have e4 : u 4 = _ := hD.2.2.2.2.1; have e5 : u 5 = _ := hD.2.2.2.2.2.1; have e6 : u 6 = _ := hD.2.2.2.2.2.2.1; have e7 : u 7 = _ := hD.2.2.2.2.2.2.2.1; have e8 : u 8 = _ := hD.2.2.2.2.2.2.2.2.1; have e9 : u 9 = _ := hD.2.2.2.2.2.2.2.2.2.1; have e10 : u 10 = _ := hD.2.2.2.2.2.2.2.2.2.2.1; have e11 : u 11 = _ := hD.2.2.2.2.2.2.2.2.2.2.2.1; have e12 : u 12 = _ := hD.2.2.2.2.2.2.2.2.2.2.2.2.1; have e13 : u 13 = _ := hD.2.2.2.2.2.2.2.2.2.2.2.2.2.1; have e14 : u 14 = _ := hD.2.2.2.2.2.2.2.2.2.2.2.2.2.2.1; have e15 : u 15 = _ := hD.2.2.2.2.2.2.2.2.2.2.2.2.2.2.2.1; have e16 : u 16 = _ := hD.2.2.2.2.2.2.2.2.2.2.2.2.2.2.2.2.1; have e17 : u 17 = _ := hD.2.2.2.2.2.2.2.2.2.2.2.2.2.2.2.2.2.1; clear hD; simp only [put9, e0, e1, e2, e3, e4, e5, e6, e7, e8, e9, e10, e11, e12, e13, e14, e15, e16, e17] at hK ⊢
          refine Closed.mk ?_; go_simp
          exact hK.out _ _ ⟨hA, hN, x_p, x_o, x_g, o_d⟩ trivial rfl
        · refine GoalL.mk0 (by rfl) ?_; rintro f u wq hf ⟨hA, hN, x_p, x_o, x_g, o_d⟩ hD K hK; have e0 : u 0 = _ := hD.1; have e1 : u 1 = _ := hD.2.1; have e2 : u 2 = _ := hD.2.2.1; have e3 : u 3 = _ := hD.2.2.2.1; have e4 : u 4 = _ := hD.2.2.2.2.1; have e5 : u 5 = _ := hD.2.2.2.2.2.1; have e6 : u 6 = _ := hD.2.2.2.2.2.2.1; have e7 : u 7 = _ := hD.2.2.2.2.2.2.2.1; have e8 : u 8 = _ := hD.2.2.2.2.2.2.2.2.1; have e9 : u 9 = _ := hD.2.2.2.2.2.2.2.2.2.1; have e10 : u 10 = _ := hD.2.2.2.2.2.2.2.2.2.2.1; have e11 : u 11 = _ := hD.2.2.2.2.2.2.2.2.2.2.2.1; have e12 : u 12 = _ := hD.2.2.2.2.2.2.2.2.2.2.2.2.1; have e13 : u 13 = _ := hD.2.2.2.2.2.2.2.2.2.2.2.2.2.1; have e14 : u 14 = _ := hD.2.2.2.2.2.2.2.2.2.2.2.2.2.2.1; have e15 : u 15 = _ := hD.2.2.2.2.2.2.2.2.2.2.2.2.2.2.2.1; have e16 : u 16 = _ := hD.2.2.2.2.2.2.2.2.2.2.2.2.2.2.2.2.1; have e17 : u 17 = _ := hD.2.2.2.2.2.2.2.2.2.2.2.2.2.2.2.2.2.1; have e18 : u 18 = _ := hD.2.2.2.2.2.2.2.2.2.2.2.2.2.2.2.2.2.2.1; clear hD; simp only [put9, e0, e1, e2, e3, e4, e5, e6, e7, e8, e9, e10, e11, e12, e13, e14, e15, e16, e17, e18] at hK ⊢
          refine Closed.mk ?_; go_simp
          exact hK.out _ _ ⟨hA, hN, x_p, x_o, x_g, o_d⟩ trivial rfl
        · refine GoalL.mk0 (by rfl) ?_; rintro f u wq hf ⟨hA, hN, x_p, x_o, x_g, o_d⟩ hD K hK; have e0 : u 0 = _ := hD.1; have e1 : u 1 = _ := hD.2.1; have e2 : u 2 = _ := hD.2.2.1; have e3 : u 3 = _ := hD.2.2.2.1; have e4 : u 4 = _ := hD.2.2.2.2.1; have e5 : u 5 = _ := hD.2.2.2.2.2.1; have e6 : u 6 = _ := hD.2.2.2.2.2.2.1; have e7 : u 7 = _ := hD.2.2.2.2.2.2.2.1; have e8 : u 8 = _ := hD.2.2.2.2.2.2.2.2.1; have e9 : u 9 = _ := hD.2.2.2.2.2.2.2.2.2.1; have e10 : u 10 = _ := hD.2.2.2.2.2.2.2.2.2.2.1; have e11 : u 11 = _ := hD.2.2.2.2.2.2.2.2.2.2.2.1; have e12 : u 12 = _ := hD.2.2.2.2.2.2.2.2.2.2.2.2.1; have e13 : u 13 = _ := hD.2.2.2.2.2.2.2.2.2.2.2.2.2.1; have e14 : u 14 = _ := hD.2.2.2.2.2.2.2.2.2.2.2.2.2.2.1; have e15 : u 15 = _ := hD.2.2.2.2.2.2.2.2.2.2.2.2.2.2.2.1; have e16 : u 16 = _ := hD.2.2.2.2.2.2.2.2.2.2.2.2.2.2.2.2.1; have e17 : u 17 = _ := hD.2.2.2.2.2.2.2.2.2.2.2.2.2.2.2.2.2.1; have e18 : u 18 = _ := hD.2.2.2.2.2.2.2.2.2.2.2.2.2.2.2.2.2.2.1; have e19 : u 19 = _ := hD.2.2.2.2.2.2.2.2.2.2.2.2.2.2.2.2.2.2.2.1; clear hD; simp only [put9, e0, e1, e2, e3, e4, e5, e6, e7, e8, e9, e10, e11, e12, e13, e14, e15, e16, e17, e18, e19] at hK ⊢
          refine Closed.mk ?_; go_simp
          exact hK.out _ _ ⟨hA, hN, x_p, x_o, x_g, o_d⟩ trivial rfl
        intro u w6 hC hD
        have hA := hC.1; have hN := hC.2.1; have x_p := hC.2.2.1; have x_o := hC.2.2.2.1; have x_g := hC.2.2.2.2.1; have o_d := hC.2.2.2.2.2; clear hC
        have e0 : u 0 = _ := hD.1; have e1 : u 1 = _ := hD.2.1; have e2 : u 2 = _ := hD.2.2.1; have e3 : u 3 = _ := hD.2.2.2.1; have e4 : u 4 = _ := hD.2.2.2.2.1; have e5 : u 5 = _ := hD.2.2.2.2.2.1; have e6 : u 6 = _ := hD.2.2.2.2.2.2.1; have e7 : u 7 = _ := hD.2.2.2.2.2.2.2.1; have e8 : u 8 = _ := hD.2.2.2.2.2.2.2.2.1; have e9 : u 9 = _ := hD.2.2.2.2.2.2.2.2.2.1; have e10 : u 10 = _ := hD.2.2.2.2.2.2.2.2.2.2.1; have e11 : u 11 = _ := hD.2.2.2.2.2.2.2.2.2.2.2.1; have e12 : u 12 = _ := hD.2.2.2.2.2.2.2.2.2.2.2.2.1; have e13 : u 13 = _ := hD.2.2.2.2.2.2.2.2.2.2.2.2.2.1; have e14 : u 14 = _ := hD.2.2.2.2.2.2.2.2.2.2.2.2.2.2.1; have e15 : u 15 = _ := hD.2.2.2.2.2.2.2.2.2.2.2.2.2.2.2.1; have e16 : u 16 = _ := hD.2.2.2.2.2.2.2.2.2.2.2.2.2.2.2.2.1; have e17 : u 17 = _ := hD.2.2.2.2.2.2.2.2.2.2.2.2.2.2.2.2.2.1; have e18 : u 18 = _ := hD.2.2.2.2.2.2.2.2.2.2.2.2.2.2.2.2.2.2.1; have e19 : u 19 = _ := hD.2.2.2.2.2.2.2.2.2.2.2.2.2.2.2.2.2.2.2.1; have e20 : u 20 = _ := hD.2.2.2.2.2.2.2.2.2.2.2.2.2.2.2.2.2.2.2.2.1; clear hD
        have B6 := Lib.hid hA; have N6 := hN; have S6 := hA.size
        have Xp_6 := Lib.hid x_p; clear x_p
        have Xo_6 := Lib.hid x_o; clear x_o
        have Xg_6 := Lib.hid x_g; clear x_g
        have Od_6 := Lib.hid o_d; clear o_d
        obtain ⟨cp6_0, cp6_1, cp6_2, cp6_3, cp6_4, fp6_0, fp6_1, fp6_2, fp6_3, fp6_4⟩ := box5 Xp_6.out; have lp6 := heap_lt Xp_6.out
        obtain ⟨co6_0, co6_1, co6_2, fo6_0, fo6_1, fo6_2⟩ := box3 Xo_6.out; have lo6 := heap_lt Xo_6.out
        obtain ⟨cg6_0, cg6_1, cg6_2, fg6_0, fg6_1, fg6_2⟩ := box3 Xg_6.out; have lg6 := heap_lt Xg_6.out
        clear hA hN
        simp only [put9, e0, e1, e2, e3, e4, e5, e6, e7, e8, e9, e10, e11, e12, e13, e14, e15, e16, e17, e18, e19, e20]
        refine Closed.mk (wpAnyH_done (by kernel_rfl) ?_ _)
        go_wp2_with (fail)
        refine (DrawParseOp_calls _ ms _ (Row.below H1.out B6.out) HM.out).mono ?_
        rintro e w7 ⟨t, rfl, ht, hb⟩
        have B7 := Lib.hid (Below.trans B6.out (hb.mono (by first | omega | (simp only [szA, szS, szD, World.heap_drewN] at * <;> omega))) : Below w.heap.size w w7)
        have Z7 := hb.size
        have N7 : w6.heap.size ≤ w7.heap.size := (by first | with_reducible exact Z7 | (simp only [szA, szS, szD] at Z7; omega))
        clear Z7
        clear hb
        have S7 : w.heap.size ≤ w7.heap.size := (by omega)
        have q1 : (t.toList == t.toList) = true := beq_self_eq_true _
        go_wp2_with (fail)
        refine (ParseOp_calls t _ (HL.out.below B7.out) (by omega)).mono ?_
        rintro e w8 ⟨r2, rfl, hr, hb⟩
        have B8 := Lib.hid (Below.trans B7.out (hb.mono (by first | omega | (simp only [szA, szS, szD, World.heap_drewN] at * <;> omega))) : Below w.heap.size w w8)
        have Z8 := hb.size
        have N8 : w7.heap.size ≤ w8.heap.size := (by first | with_reducible exact Z8 | (simp only [szA, szS, szD] at Z8; omega))
        clear Z8
        clear hb
        have S8 : w.heap.size ≤ w8.heap.size := (by omega)
        have HR := Lib.hid hr; clear hr
        rcases r2 with _ | ⟨z0, z1, z2⟩
        · go_wp2_with (fail)
          refine (sParseOp_calls t _ (by omega)).mono ?_
          rintro e w9 ⟨r3, rfl, hr, hb⟩
          have B9 := Lib.hid (Below.trans (Below.alloc B8.out (by first | omega | (simp only [szA, szS, szD, World.heap_drewN] at * <;> omega)) _) (hb.mono (by first | omega | (simp only [szA, szS, szD, World.heap_drewN] at * <;> omega))) : Below w.heap.size w w9)
          have Z9 := hb.size
          have N9 : w8.heap.size + 1 ≤ w9.heap.size := (by first | with_reducible exact Z9 | (simp only [szA, szS, szD] at Z9; omega))
          clear Z9
          have Xg2_9 : Hid (w9.heap[w8.heap.size]? = some (.cells #[.int .i64 0, .int .i64 0, .int .i64 0] 23 (0, 0))) := below_at hb (heap_at' (n := w8.heap.size) (by first | omega | (simp only [szA, szS, szD, World.heap_drewN] at * <;> omega)))
          clear hb
          obtain ⟨cg29_0, cg29_1, cg29_2, fg29_0, fg29_1, fg29_2⟩ := box3 Xg2_9.out; have lg29 := heap_lt Xg2_9.out
          have S9 : w.heap.size ≤ w9.heap.size := (by omega)
          obtain rfl := ParEnd.one HR.out hr
          clear hr
          go_wp2
          go_ret
          exact ⟨rfl, Below.mono (Below.alloc B9.out (by first | omega | (simp only [szA, szS, szD, World.heap_drewN] at * <;> omega)) _) (Nat.le_refl _)⟩
        · rw [opv_some, some_some]
          have hpb : ParB t (z0, z1, z2) := HR.out
          have HZ1 := Lib.hid hpb.inB.1; have HZ2 := Lib.hid hpb.inB.2; have HT := Lib.hid (show opText (z0, z1, z2) = t from by obtain ⟨_, _, _, _, _, _, h9⟩ := hpb; exact h9); clear hpb
          go_wp2_with (fail)
          refine (sParseOp_calls t _ (by omega)).mono ?_
          rintro e w9 ⟨r3, rfl, hr, hb⟩
          have B9 := Lib.hid (Below.trans (Below.alloc B8.out (by first | omega | (simp only [szA, szS, szD, World.heap_drewN] at * <;> omega)) _) (hb.mono (by first | omega | (simp only [szA, szS, szD, World.heap_drewN] at * <;> omega))) : Below w.heap.size w w9)
          have Z9 := hb.size
          have N9 : w8.heap.size + 1 ≤ w9.heap.size := (by first | with_reducible exact Z9 | (simp only [szA, szS, szD] at Z9; omega))
          clear Z9
          have Xg2_9 : Hid (w9.heap[w8.heap.size]? = some (.cells #[.int .i64 z0, .int .i64 z1, .int .i64 z2] 23 (0, 0))) := below_at hb (heap_at' (n := w8.heap.size) (by first | omega | (simp only [szA, szS, szD, World.heap_drewN] at * <;> omega)))
          clear hb
          obtain ⟨cg29_0, cg29_1, cg29_2, fg29_0, fg29_1, fg29_2⟩ := box3 Xg2_9.out; have lg29 := heap_lt Xg2_9.out
          have S9 : w.heap.size ≤ w9.heap.size := (by omega)
          obtain rfl := ParEnd.one HR.out hr
          clear hr
          rw [opv_some, some_some]
          go_wp2_with (fail)
          refine (FormatOp_calls (z0, z1, z2) _ (HL.out.1.below (Below.alloc B9.out (by first | omega | (simp only [szA, szS, szD, World.heap_drewN] at * <;> omega)) _)) HZ1.out HZ2.out).mono ?_
          rw [HT.out]
          rintro e w10 ⟨rfl, hb⟩
          have B10 := Lib.hid (Below.trans (Below.alloc B9.out (by first | omega | (simp only [szA, szS, szD, World.heap_drewN] at * <;> omega)) _) (hb.mono (by first | omega | (simp only [szA, szS, szD, World.heap_drewN] at * <;> omega))) : Below w.heap.size w w10)
          have Z10 := hb.size
          have N10 : w9.heap.size + 1 ≤ w10.heap.size := (by first | with_reducible exact Z10 | (simp only [szA, szS, szD] at Z10; omega))
          clear Z10
          have Xg2_10 := Lib.hid (below_at hb (heap_up Xg2_9.out))
          have Xw2_10 : Hid (w10.heap[w9.heap.size]? = some (.cells #[.int .i64 z0, .int .i64 z1, .int .i64 z2] 23 (0, 0))) := below_at hb (heap_at' (n := w9.heap.size) (by first | omega | (simp only [szA, szS, szD, World.heap_drewN] at * <;> omega)))
          clear hb
          obtain ⟨cg210_0, cg210_1, cg210_2, fg210_0, fg210_1, fg210_2⟩ := box3 Xg2_10.out; have lg210 := heap_lt Xg2_10.out
          obtain ⟨cw210_0, cw210_1, cw210_2, fw210_0, fw210_1, fw210_2⟩ := box3 Xw2_10.out; have lw210 := heap_lt Xw2_10.out
          have S10 : w.heap.size ≤ w10.heap.size := (by omega)
          clear cg29_0 cg29_1 cg29_2 fg29_0 fg29_1 fg29_2
          go_wp2
          go_ret
          exact ⟨rfl, B10.out⟩
end Go.Proofs.YthbnbofoefdneaaDoor
