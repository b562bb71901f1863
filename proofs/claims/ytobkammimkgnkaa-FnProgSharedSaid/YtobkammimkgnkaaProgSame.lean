/- ProgSame of both: what they return (made by gen_progsame.py). -/
import Derived.Test.YtobkammimkgnkaaStProg
import Derived.Test.YtobkammimkgnkaaG1
namespace Go.Proofs.Ytobkammimkgnkaa
open Go.RowKit
set_option linter.unusedSimpArgs false
set_option linter.unusedVariables false
theorem eqTr (x y : OpT) (w : World) : (Op.equalIn 10000 36 (opv x) (opv y)).run Try.prog w = .ok (decide (x = y)) w := by
  have u3 := Try.underlying3
  have a3 := Try.isAgg3
  have z3 := Try.sizeOf3
  have hS : Try.prog.underlying 36 = some (.struct (Try.prog.fieldsOf 36)) := by kernel_rfl
  have hp : Try.prog.stoodInHeld 36 = false := by kernel_rfl
  rw [show (10000 : Nat) = 9999 + 1 from rfl, run_equalIn_agg w 9999 36 _ _ hS hp]
  obtain ⟨x1, x2, x3⟩ := x
  obtain ⟨y1, y2, y3⟩ := y
  simp only [opv]
  simp only [Program.fieldsOf, Try.underlying36]
  go_simp
  by_cases h1 : x1 = y1 <;> by_cases h2 : x2 = y2 <;> by_cases h3 : x3 = y3 <;> simp [h1, h2, h3]
theorem EqualOp_calls (v1 v2 : Value) (p q : List OpT) (w : World) (h1 : TRow w v1 p) (h2 : TRow w v2 q) :
    Calls Try.prog 36 #[v1, v2] w fun e w' => e = .returned (.bool (decide (p = q))) ∧ Below w.heap.size w w' := by
  obtain ⟨a1, c1, rfl, l1, m1, r1⟩ := h1.look
  obtain ⟨a2, c2, rfl, l2, m2, r2⟩ := h2.look
  have R1 := Lib.hid r1; clear r1
  have R2 := Lib.hid r2; clear r2
  have hm : p.length ≤ 9223372036854775807 := by omega
  by_cases hl : p.length = q.length
  · have hd := len_bne hl
    have HL := Lib.hid hl; clear hl
    go_enter Try.func36, Try.ntmps36
    go_wp2
    go_loopw [13] (fun i wr => ∃ k : Nat, k ≤ p.length ∧ i = .int .i64 k ∧ p.take k = q.take k ∧ ∃ n, wr = w.drewN n) (fun i _ => p.length - (intOf i).toNat)
    case atStart => exact ⟨0, Nat.zero_le _, rfl, rfl, 0, rfl⟩
    case round =>
      obtain ⟨k, hk, rfl, he, n0, rfl⟩ := hrel
      have HE := Lib.hid he; clear he
      by_cases hlt : k < p.length
      · have hlt2 : k < q.length := by have := HL.out; omega
        obtain ⟨b1, o1, rfl, hb1, hc1⟩ := R1.out (by omega)
        obtain ⟨b2, o2, rfl, hb2, hc2⟩ := R2.out (by omega)
        obtain ⟨x, hx⟩ := get_ex hlt
        obtain ⟨y, hy⟩ := get_ex hlt2
        have k10 := (hc1 k x hx).1
        have k11 := (hc1 k x hx).2.1
        have k12 := (hc1 k x hx).2.2
        have k20 := (hc2 k y hy).1
        have k21 := (hc2 k y hy).2.1
        have k22 := (hc2 k y hy).2.2
        have ke := eqTr x y
        have HX := Lib.hid hx; clear hx hc1
        have HY := Lib.hid hy; clear hy hc2
        go_wp2
        go_quiet (fail)
        go_wp2
        · go_ret
          exact ⟨ret_bool (ne_false HX.out HY.out (by simpa using ‹(!decide (x = y)) = true›)).symm, below_drewN (below_drewN (Below.refl _ _) _) _⟩
        · go_roundw
          case rel => exact ⟨k + 1, by omega, by go_num, take_eq HE.out HX.out HY.out (by simpa using ‹(!decide (x = y)) = false›), _, rfl⟩
          case measure => simp [intOf]; omega
      · go_wp2
        go_ret
        exact ⟨ret_bool (all_eq HL.out (by omega) HE.out).symm, below_drewN (Below.refl _ _) _⟩
  · have hd := len_bne' hl
    go_enter Try.func36, Try.ntmps36
    go_wp2
    go_ret
    exact ⟨ret_bool (len_false hl).symm, Below.refl _ _⟩
theorem l6Ops_calls (v1 v2 : Value) (p q : List OpT) (w : World) (h1 : TRow w v1 p) (h2 : TRow w v2 q) :
    Calls Try.prog 30 #[v1, v2] w fun e w' => e = .returned (.bool (decide (p = q))) ∧ Below w.heap.size w w' := by
  obtain ⟨a1, c1, rfl, l1, m1, r1⟩ := h1.look
  obtain ⟨a2, c2, rfl, l2, m2, r2⟩ := h2.look
  have R1 := Lib.hid r1; clear r1
  have R2 := Lib.hid r2; clear r2
  have hm : p.length ≤ 9223372036854775807 := by omega
  by_cases hl : p.length = q.length
  · have hd := len_bne hl
    have HL := Lib.hid hl; clear hl
    go_enter Try.func30, Try.ntmps30
    go_wp2
    go_loopw [5] (fun i wr => ∃ k : Nat, k ≤ p.length ∧ i = .int .i64 k ∧ p.take k = q.take k ∧ ∃ n, wr = w.drewN n) (fun i _ => p.length - (intOf i).toNat)
    case atStart => exact ⟨0, Nat.zero_le _, rfl, rfl, 0, rfl⟩
    case round =>
      obtain ⟨k, hk, rfl, he, n0, rfl⟩ := hrel
      have HE := Lib.hid he; clear he
      by_cases hlt : k < p.length
      · have hlt2 : k < q.length := by have := HL.out; omega
        obtain ⟨b1, o1, rfl, hb1, hc1⟩ := R1.out (by omega)
        obtain ⟨b2, o2, rfl, hb2, hc2⟩ := R2.out (by omega)
        obtain ⟨x, hx⟩ := get_ex hlt
        obtain ⟨y, hy⟩ := get_ex hlt2
        have k10 := (hc1 k x hx).1
        have k11 := (hc1 k x hx).2.1
        have k12 := (hc1 k x hx).2.2
        have k20 := (hc2 k y hy).1
        have k21 := (hc2 k y hy).2.1
        have k22 := (hc2 k y hy).2.2
        have ke := eqTr x y
        have HX := Lib.hid hx; clear hx hc1
        have HY := Lib.hid hy; clear hy hc2
        go_wp2
        go_quiet (fail)
        go_wp2
        · go_ret
          exact ⟨ret_bool (ne_false HX.out HY.out (by simpa using ‹(!decide (x = y)) = true›)).symm, below_drewN (below_drewN (Below.refl _ _) _) _⟩
        · go_roundw
          case rel => exact ⟨k + 1, by omega, by go_num, take_eq HE.out HX.out HY.out (by simpa using ‹(!decide (x = y)) = false›), _, rfl⟩
          case measure => simp [intOf]; omega
      · go_wp2
        go_ret
        exact ⟨ret_bool (all_eq HL.out (by omega) HE.out).symm, below_drewN (Below.refl _ _) _⟩
  · have hd := len_bne' hl
    go_enter Try.func30, Try.ntmps30
    go_wp2
    go_ret
    exact ⟨ret_bool (len_false hl).symm, Below.refl _ _⟩
theorem sameFn_calls (v1 v2 : Value) (p q : List OpT) (w : World) (h1 : TRow w v1 p) (h2 : TRow w v2 q) :
    Calls Try.prog 35 #[v1, v2] w fun e w' => e = .returned (.bool (decide (p = q))) ∧ Below w.heap.size w w' := by
  go_enter Try.func35, Try.ntmps35
  go_wp2_with (fail)
  refine (EqualOp_calls v1 v2 p q _ h1 h2).mono ?_
  rintro e w' ⟨rfl, hb⟩
  have HB := Lib.hid hb; clear hb
  go_wp2
  go_ret
  exact ⟨rfl, HB.out⟩
set_option maxHeartbeats 1600000 in
theorem EqualFunc_calls (v1 v2 : Value) (p q : List (List OpT)) (w : World) (h1 : TTRow w v1 p) (h2 : TTRow w v2 q) :
    Calls Try.prog 34 #[v1, v2, .func (.func 35) #[] #[]] w fun e w' => e = .returned (.bool (decide (p = q))) ∧ Below w.heap.size w w' := by
  obtain ⟨a1, c1, rfl, l1, m1, r1⟩ := h1.look
  obtain ⟨a2, c2, rfl, l2, m2, r2⟩ := h2.look
  have R1 := Lib.hid r1; clear r1
  have R2 := Lib.hid r2; clear r2
  have hm : p.length ≤ 9223372036854775807 := by omega
  by_cases hl : p.length = q.length
  · have hd := len_bne hl
    have HL := Lib.hid hl; clear hl
    go_enter Try.func34, Try.ntmps34
    go_wp2
    go_loopw [17] (fun i wr => ∃ k : Nat, k ≤ p.length ∧ i = .int .i64 k ∧ p.take k = q.take k ∧ Below w.heap.size w wr) (fun i _ => p.length - (intOf i).toNat)
    case atStart => exact ⟨0, Nat.zero_le _, rfl, rfl, Below.refl _ _⟩
    case round =>
      obtain ⟨k, hk, rfl, he, hb⟩ := hrel
      have HE := Lib.hid he; clear he
      have HB := Lib.hid hb; clear hb
      by_cases hlt : k < p.length
      · have hlt2 : k < q.length := by have := HL.out; omega
        obtain ⟨b1, o1, rfl, hb1, hc1⟩ := R1.out (by omega)
        obtain ⟨b2, o2, rfl, hb2, hc2⟩ := R2.out (by omega)
        obtain ⟨x, hx⟩ := get_ex hlt
        obtain ⟨y, hy⟩ := get_ex hlt2
        obtain ⟨s1, d1, g1, q1⟩ := hc1 k x hx
        obtain ⟨s2, d2, g2, q2⟩ := hc2 k y hy
        have k1 := (HB.out.cell (p := ⟨b1, o1 + k, none⟩) hb1).trans g1
        have k2 := (HB.out.cell (p := ⟨b2, o2 + k, none⟩) hb2).trans g2
        have Q1 := Lib.hid (Row.below q1 HB.out); have Q2 := Lib.hid (Row.below q2 HB.out)
        have HX := Lib.hid hx; have HY := Lib.hid hy; clear hx hy hc1 hc2 g1 g2 q1 q2
        go_wp2_with (fail)
        refine (sameFn_calls _ _ x y _ Q1.out Q2.out).mono ?_
        rintro e w1 ⟨rfl, hb⟩
        have HB1 := Lib.hid (HB.out.trans (hb.mono HB.out.size)); clear hb
        by_cases hxy : x = y
        · rw [decide_eq_true hxy]
          have HXY := Lib.hid hxy; clear hxy
          go_wp2
          go_roundw
          case rel => exact ⟨k + 1, by omega, by go_num, take_eq HE.out HX.out HY.out HXY.out, HB1.out⟩
          case measure => simp [intOf]; omega
        · rw [decide_eq_false hxy]
          have HXY := Lib.hid hxy; clear hxy
          go_wp2
          go_ret
          exact ⟨ret_bool (ne_false HX.out HY.out HXY.out).symm, HB1.out⟩
      · go_wp2
        go_ret
        exact ⟨ret_bool (all_eq HL.out (by omega) HE.out).symm, HB.out⟩
  · have hd := len_bne' hl
    go_enter Try.func34, Try.ntmps34
    go_wp2
    go_ret
    exact ⟨ret_bool (len_false hl).symm, Below.refl _ _⟩
set_option maxHeartbeats 3200000 in
theorem ProgSameO (v1 v2 : Value) (c d : ProgD) (w : World) (h1 : ProgRow w v1 c) (h2 : ProgRow w v2 d) :
    Calls Try.prog 15 #[v1, v2] w fun e w' => e = .returned (.bool (decide (c = d))) ∧ Below w.heap.size w w' := by
  obtain ⟨a0, p0, a1, p1, a2, p2, a3, p3, a4, p4, rfl, r0, r1, r2, r3, r4⟩ := h1
  obtain ⟨b0, q0, b1, q1, b2, q2, b3, q3, b4, q4, rfl, s0, s1, s2, s3, s4⟩ := h2
  have R0 := Lib.hid r0; clear r0; have U0 := Lib.hid s0; clear s0
  have R1 := Lib.hid r1; clear r1; have U1 := Lib.hid s1; clear s1
  have R2 := Lib.hid r2; clear r2; have U2 := Lib.hid s2; clear s2
  have R3 := Lib.hid r3; clear r3; have U3 := Lib.hid s3; clear s3
  have R4 := Lib.hid r4; clear r4; have U4 := Lib.hid s4; clear s4
  go_enter Try.func15, Try.ntmps15
  go_wp2_with (fail)
  refine (EqualI_calls _ _ c.sems d.sems _ (Row.below R0.out (Below.alloc (Below.alloc (Below.refl _ _) (by first | omega | (simp only [szA, szS, szD, World.heap_drewN] at * <;> omega)) _) (by first | omega | (simp only [szA, szS, szD, World.heap_drewN] at * <;> omega)) _)) (Row.below U0.out (Below.alloc (Below.alloc (Below.refl _ _) (by first | omega | (simp only [szA, szS, szD, World.heap_drewN] at * <;> omega)) _) (by first | omega | (simp only [szA, szS, szD, World.heap_drewN] at * <;> omega)) _))).mono ?_
  rintro e w1 ⟨rfl, hb⟩
  have B1 := Lib.hid (Below.trans (Below.alloc (Below.alloc (Below.refl _ _) (by first | omega | (simp only [szA, szS, szD, World.heap_drewN] at * <;> omega)) _) (by first | omega | (simp only [szA, szS, szD, World.heap_drewN] at * <;> omega)) _) (hb.mono (by first | omega | (simp only [szA, szS, szD, World.heap_drewN] at * <;> omega))) : Below w.heap.size w w1)
  have Z1 := hb.size
  have N1 : w.heap.size + 2 ≤ w1.heap.size := (by first | with_reducible exact Z1 | (simp only [szA, szS, szD] at Z1; omega))
  clear Z1
  have Xx_1 : Hid (w1.heap[w.heap.size]? = some (.cells #[.slice a0 c.sems.length p0, .slice a1 c.groups.length p1, .slice a2 c.barriers.length p2, .slice a3 c.rooms.length p3, .slice a4 c.threads.length p4] 30 (0, 0))) := below_at hb (heap_up (heap_at' (n := w.heap.size) (by first | omega | (simp only [szA, szS, szD, World.heap_drewN] at * <;> omega))))
  have Xy_1 : Hid (w1.heap[w.heap.size + 1]? = some (.cells #[.slice b0 d.sems.length q0, .slice b1 d.groups.length q1, .slice b2 d.barriers.length q2, .slice b3 d.rooms.length q3, .slice b4 d.threads.length q4] 30 (0, 0))) := below_at hb (heap_at' (n := w.heap.size + 1) (by first | omega | (simp only [szA, szS, szD, World.heap_drewN] at * <;> omega)))
  clear hb
  obtain ⟨cx1_0, cx1_1, cx1_2, cx1_3, cx1_4, fx1_0, fx1_1, fx1_2, fx1_3, fx1_4⟩ := box5 Xx_1.out; have lx1 := heap_lt Xx_1.out
  obtain ⟨cy1_0, cy1_1, cy1_2, cy1_3, cy1_4, fy1_0, fy1_1, fy1_2, fy1_3, fy1_4⟩ := box5 Xy_1.out; have ly1 := heap_lt Xy_1.out
  have S1 : w.heap.size ≤ w1.heap.size := (by omega)
  by_cases g0 : c.sems = d.sems
  · rw [decide_eq_true g0]
    have G0 := Lib.hid g0; clear g0
    go_wp2_with (fail)
    refine (EqualI_calls _ _ c.groups d.groups _ (Row.below R1.out B1.out) (Row.below U1.out B1.out)).mono ?_
    rintro e w2 ⟨rfl, hb⟩
    have B2 := Lib.hid (Below.trans B1.out (hb.mono (by first | omega | (simp only [szA, szS, szD, World.heap_drewN] at * <;> omega))) : Below w.heap.size w w2)
    have Z2 := hb.size
    have N2 : w1.heap.size ≤ w2.heap.size := (by first | with_reducible exact Z2 | (simp only [szA, szS, szD] at Z2; omega))
    clear Z2
    have Xx_2 := Lib.hid (below_at hb Xx_1.out)
    have Xy_2 := Lib.hid (below_at hb Xy_1.out)
    clear hb
    obtain ⟨cx2_0, cx2_1, cx2_2, cx2_3, cx2_4, fx2_0, fx2_1, fx2_2, fx2_3, fx2_4⟩ := box5 Xx_2.out; have lx2 := heap_lt Xx_2.out
    obtain ⟨cy2_0, cy2_1, cy2_2, cy2_3, cy2_4, fy2_0, fy2_1, fy2_2, fy2_3, fy2_4⟩ := box5 Xy_2.out; have ly2 := heap_lt Xy_2.out
    have S2 : w.heap.size ≤ w2.heap.size := (by omega)
    clear cx1_0 cx1_1 cx1_2 cx1_3 cx1_4 fx1_0 fx1_1 fx1_2 fx1_3 fx1_4 cy1_0 cy1_1 cy1_2 cy1_3 cy1_4 fy1_0 fy1_1 fy1_2 fy1_3 fy1_4
    by_cases g1 : c.groups = d.groups
    · rw [decide_eq_true g1]
      have G1 := Lib.hid g1; clear g1
      go_wp2_with (fail)
      refine (EqualI_calls _ _ c.barriers d.barriers _ (Row.below R2.out B2.out) (Row.below U2.out B2.out)).mono ?_
      rintro e w3 ⟨rfl, hb⟩
      have B3 := Lib.hid (Below.trans B2.out (hb.mono (by first | omega | (simp only [szA, szS, szD, World.heap_drewN] at * <;> omega))) : Below w.heap.size w w3)
      have Z3 := hb.size
      have N3 : w2.heap.size ≤ w3.heap.size := (by first | with_reducible exact Z3 | (simp only [szA, szS, szD] at Z3; omega))
      clear Z3
      have Xx_3 := Lib.hid (below_at hb Xx_2.out)
      have Xy_3 := Lib.hid (below_at hb Xy_2.out)
      clear hb
      obtain ⟨cx3_0, cx3_1, cx3_2, cx3_3, cx3_4, fx3_0, fx3_1, fx3_2, fx3_3, fx3_4⟩ := box5 Xx_3.out; have lx3 := heap_lt Xx_3.out
      obtain ⟨cy3_0, cy3_1, cy3_2, cy3_3, cy3_4, fy3_0, fy3_1, fy3_2, fy3_3, fy3_4⟩ := box5 Xy_3.out; have ly3 := heap_lt Xy_3.out
      have S3 : w.heap.size ≤ w3.heap.size := (by omega)
      clear cx2_0 cx2_1 cx2_2 cx2_3 cx2_4 fx2_0 fx2_1 fx2_2 fx2_3 fx2_4 cy2_0 cy2_1 cy2_2 cy2_3 cy2_4 fy2_0 fy2_1 fy2_2 fy2_3 fy2_4
      by_cases g2 : c.barriers = d.barriers
      · rw [decide_eq_true g2]
        have G2 := Lib.hid g2; clear g2
        go_wp2_with (fail)
        refine (EqualI_calls _ _ c.rooms d.rooms _ (Row.below R3.out B3.out) (Row.below U3.out B3.out)).mono ?_
        rintro e w4 ⟨rfl, hb⟩
        have B4 := Lib.hid (Below.trans B3.out (hb.mono (by first | omega | (simp only [szA, szS, szD, World.heap_drewN] at * <;> omega))) : Below w.heap.size w w4)
        have Z4 := hb.size
        have N4 : w3.heap.size ≤ w4.heap.size := (by first | with_reducible exact Z4 | (simp only [szA, szS, szD] at Z4; omega))
        clear Z4
        have Xx_4 := Lib.hid (below_at hb Xx_3.out)
        have Xy_4 := Lib.hid (below_at hb Xy_3.out)
        clear hb
        obtain ⟨cx4_0, cx4_1, cx4_2, cx4_3, cx4_4, fx4_0, fx4_1, fx4_2, fx4_3, fx4_4⟩ := box5 Xx_4.out; have lx4 := heap_lt Xx_4.out
        obtain ⟨cy4_0, cy4_1, cy4_2, cy4_3, cy4_4, fy4_0, fy4_1, fy4_2, fy4_3, fy4_4⟩ := box5 Xy_4.out; have ly4 := heap_lt Xy_4.out
        have S4 : w.heap.size ≤ w4.heap.size := (by omega)
        clear cx3_0 cx3_1 cx3_2 cx3_3 cx3_4 fx3_0 fx3_1 fx3_2 fx3_3 fx3_4 cy3_0 cy3_1 cy3_2 cy3_3 cy3_4 fy3_0 fy3_1 fy3_2 fy3_3 fy3_4
        by_cases g3 : c.rooms = d.rooms
        · rw [decide_eq_true g3]
          have G3 := Lib.hid g3; clear g3
          go_wp2_with (fail)
          refine (EqualFunc_calls _ _ c.threads d.threads _ (TTRow.below R4.out B4.out) (TTRow.below U4.out B4.out)).mono ?_
          rintro e w5 ⟨rfl, hb⟩
          have B5 := Lib.hid (Below.trans B4.out (hb.mono (by first | omega | (simp only [szA, szS, szD, World.heap_drewN] at * <;> omega))) : Below w.heap.size w w5)
          have Z5 := hb.size
          have N5 : w4.heap.size ≤ w5.heap.size := (by first | with_reducible exact Z5 | (simp only [szA, szS, szD] at Z5; omega))
          clear Z5
          have Xx_5 := Lib.hid (below_at hb Xx_4.out)
          have Xy_5 := Lib.hid (below_at hb Xy_4.out)
          clear hb
          obtain ⟨cx5_0, cx5_1, cx5_2, cx5_3, cx5_4, fx5_0, fx5_1, fx5_2, fx5_3, fx5_4⟩ := box5 Xx_5.out; have lx5 := heap_lt Xx_5.out
          obtain ⟨cy5_0, cy5_1, cy5_2, cy5_3, cy5_4, fy5_0, fy5_1, fy5_2, fy5_3, fy5_4⟩ := box5 Xy_5.out; have ly5 := heap_lt Xy_5.out
          have S5 : w.heap.size ≤ w5.heap.size := (by omega)
          clear cx4_0 cx4_1 cx4_2 cx4_3 cx4_4 fx4_0 fx4_1 fx4_2 fx4_3 fx4_4 cy4_0 cy4_1 cy4_2 cy4_3 cy4_4 fy4_0 fy4_1 fy4_2 fy4_3 fy4_4
          by_cases g4 : c.threads = d.threads
          · rw [decide_eq_true g4]
            have G4 := Lib.hid g4; clear g4
            have hcd : c = d := by cases c; cases d; simp only [ProgD.mk.injEq]; exact ⟨G0.out, G1.out, G2.out, G3.out, G4.out⟩
            have HC := Lib.hid hcd; clear hcd
            go_wp2
            go_ret
            exact ⟨ret_bool (decide_eq_true HC.out).symm, B5.out⟩
          · rw [decide_eq_false g4]
            have G4 := Lib.hid g4; clear g4
            go_wp2
            go_ret
            exact ⟨ret_bool (decide_eq_false fun e => G4.out (by rw [e])).symm, B5.out⟩
        · rw [decide_eq_false g3]
          have G3 := Lib.hid g3; clear g3
          go_wp2
          go_ret
          exact ⟨ret_bool (decide_eq_false fun e => G3.out (by rw [e])).symm, B4.out⟩
      · rw [decide_eq_false g2]
        have G2 := Lib.hid g2; clear g2
        go_wp2
        go_ret
        exact ⟨ret_bool (decide_eq_false fun e => G2.out (by rw [e])).symm, B3.out⟩
    · rw [decide_eq_false g1]
      have G1 := Lib.hid g1; clear g1
      go_wp2
      go_ret
      exact ⟨ret_bool (decide_eq_false fun e => G1.out (by rw [e])).symm, B2.out⟩
  · rw [decide_eq_false g0]
    have G0 := Lib.hid g0; clear g0
    go_wp2
    go_ret
    exact ⟨ret_bool (decide_eq_false fun e => G0.out (by rw [e])).symm, B1.out⟩
set_option maxHeartbeats 3200000 in
theorem sProgSameO (v1 v2 : Value) (c d : ProgD) (w : World) (h1 : ProgRow w v1 c) (h2 : ProgRow w v2 d) :
    Calls Try.prog 13 #[v1, v2] w fun e w' => e = .returned (.bool (decide (c = d))) ∧ Below w.heap.size w w' := by
  obtain ⟨a0, p0, a1, p1, a2, p2, a3, p3, a4, p4, rfl, r0, r1, r2, r3, r4⟩ := h1
  obtain ⟨b0, q0, b1, q1, b2, q2, b3, q3, b4, q4, rfl, s0, s1, s2, s3, s4⟩ := h2
  have R0 := Lib.hid r0; clear r0; have U0 := Lib.hid s0; clear s0
  have R1 := Lib.hid r1; clear r1; have U1 := Lib.hid s1; clear s1
  have R2 := Lib.hid r2; clear r2; have U2 := Lib.hid s2; clear s2
  have R3 := Lib.hid r3; clear r3; have U3 := Lib.hid s3; clear s3
  have R4 := Lib.hid r4; clear r4; have U4 := Lib.hid s4; clear s4
  have hmt : c.threads.length ≤ 9223372036854775807 := by obtain ⟨_, _, _, g1, g2, _⟩ := R4.out.look; omega
  go_enter Try.func13, Try.ntmps13
  go_wp2_with (fail)
  refine (l2Ints_calls _ _ c.sems d.sems _ (Row.below R0.out (Below.alloc (Below.alloc (Below.refl _ _) (by first | omega | (simp only [szA, szS, szD, World.heap_drewN] at * <;> omega)) _) (by first | omega | (simp only [szA, szS, szD, World.heap_drewN] at * <;> omega)) _)) (Row.below U0.out (Below.alloc (Below.alloc (Below.refl _ _) (by first | omega | (simp only [szA, szS, szD, World.heap_drewN] at * <;> omega)) _) (by first | omega | (simp only [szA, szS, szD, World.heap_drewN] at * <;> omega)) _))).mono ?_
  rintro e w1 ⟨rfl, hb⟩
  have B1 := Lib.hid (Below.trans (Below.alloc (Below.alloc (Below.refl _ _) (by first | omega | (simp only [szA, szS, szD, World.heap_drewN] at * <;> omega)) _) (by first | omega | (simp only [szA, szS, szD, World.heap_drewN] at * <;> omega)) _) (hb.mono (by first | omega | (simp only [szA, szS, szD, World.heap_drewN] at * <;> omega))) : Below w.heap.size w w1)
  have Z1 := hb.size
  have N1 : w.heap.size + 2 ≤ w1.heap.size := (by first | with_reducible exact Z1 | (simp only [szA, szS, szD] at Z1; omega))
  clear Z1
  have Xx_1 : Hid (w1.heap[w.heap.size]? = some (.cells #[.slice a0 c.sems.length p0, .slice a1 c.groups.length p1, .slice a2 c.barriers.length p2, .slice a3 c.rooms.length p3, .slice a4 c.threads.length p4] 30 (0, 0))) := below_at hb (heap_up (heap_at' (n := w.heap.size) (by first | omega | (simp only [szA, szS, szD, World.heap_drewN] at * <;> omega))))
  have Xy_1 : Hid (w1.heap[w.heap.size + 1]? = some (.cells #[.slice b0 d.sems.length q0, .slice b1 d.groups.length q1, .slice b2 d.barriers.length q2, .slice b3 d.rooms.length q3, .slice b4 d.threads.length q4] 30 (0, 0))) := below_at hb (heap_at' (n := w.heap.size + 1) (by first | omega | (simp only [szA, szS, szD, World.heap_drewN] at * <;> omega)))
  clear hb
  obtain ⟨cx1_0, cx1_1, cx1_2, cx1_3, cx1_4, fx1_0, fx1_1, fx1_2, fx1_3, fx1_4⟩ := box5 Xx_1.out; have lx1 := heap_lt Xx_1.out
  obtain ⟨cy1_0, cy1_1, cy1_2, cy1_3, cy1_4, fy1_0, fy1_1, fy1_2, fy1_3, fy1_4⟩ := box5 Xy_1.out; have ly1 := heap_lt Xy_1.out
  have S1 : w.heap.size ≤ w1.heap.size := (by omega)
  by_cases g0 : c.sems = d.sems
  · rw [decide_eq_true g0]
    have G0 := Lib.hid g0; clear g0
    go_wp2_with (fail)
    refine (l2Ints_calls _ _ c.groups d.groups _ (Row.below R1.out B1.out) (Row.below U1.out B1.out)).mono ?_
    rintro e w2 ⟨rfl, hb⟩
    have B2 := Lib.hid (Below.trans B1.out (hb.mono (by first | omega | (simp only [szA, szS, szD, World.heap_drewN] at * <;> omega))) : Below w.heap.size w w2)
    have Z2 := hb.size
    have N2 : w1.heap.size ≤ w2.heap.size := (by first | with_reducible exact Z2 | (simp only [szA, szS, szD] at Z2; omega))
    clear Z2
    have Xx_2 := Lib.hid (below_at hb Xx_1.out)
    have Xy_2 := Lib.hid (below_at hb Xy_1.out)
    clear hb
    obtain ⟨cx2_0, cx2_1, cx2_2, cx2_3, cx2_4, fx2_0, fx2_1, fx2_2, fx2_3, fx2_4⟩ := box5 Xx_2.out; have lx2 := heap_lt Xx_2.out
    obtain ⟨cy2_0, cy2_1, cy2_2, cy2_3, cy2_4, fy2_0, fy2_1, fy2_2, fy2_3, fy2_4⟩ := box5 Xy_2.out; have ly2 := heap_lt Xy_2.out
    have S2 : w.heap.size ≤ w2.heap.size := (by omega)
    clear cx1_0 cx1_1 cx1_2 cx1_3 cx1_4 fx1_0 fx1_1 fx1_2 fx1_3 fx1_4 cy1_0 cy1_1 cy1_2 cy1_3 cy1_4 fy1_0 fy1_1 fy1_2 fy1_3 fy1_4
    by_cases g1 : c.groups = d.groups
    · rw [decide_eq_true g1]
      have G1 := Lib.hid g1; clear g1
      go_wp2_with (fail)
      refine (l2Ints_calls _ _ c.barriers d.barriers _ (Row.below R2.out B2.out) (Row.below U2.out B2.out)).mono ?_
      rintro e w3 ⟨rfl, hb⟩
      have B3 := Lib.hid (Below.trans B2.out (hb.mono (by first | omega | (simp only [szA, szS, szD, World.heap_drewN] at * <;> omega))) : Below w.heap.size w w3)
      have Z3 := hb.size
      have N3 : w2.heap.size ≤ w3.heap.size := (by first | with_reducible exact Z3 | (simp only [szA, szS, szD] at Z3; omega))
      clear Z3
      have Xx_3 := Lib.hid (below_at hb Xx_2.out)
      have Xy_3 := Lib.hid (below_at hb Xy_2.out)
      clear hb
      obtain ⟨cx3_0, cx3_1, cx3_2, cx3_3, cx3_4, fx3_0, fx3_1, fx3_2, fx3_3, fx3_4⟩ := box5 Xx_3.out; have lx3 := heap_lt Xx_3.out
      obtain ⟨cy3_0, cy3_1, cy3_2, cy3_3, cy3_4, fy3_0, fy3_1, fy3_2, fy3_3, fy3_4⟩ := box5 Xy_3.out; have ly3 := heap_lt Xy_3.out
      have S3 : w.heap.size ≤ w3.heap.size := (by omega)
      clear cx2_0 cx2_1 cx2_2 cx2_3 cx2_4 fx2_0 fx2_1 fx2_2 fx2_3 fx2_4 cy2_0 cy2_1 cy2_2 cy2_3 cy2_4 fy2_0 fy2_1 fy2_2 fy2_3 fy2_4
      by_cases g2 : c.barriers = d.barriers
      · rw [decide_eq_true g2]
        have G2 := Lib.hid g2; clear g2
        go_wp2_with (fail)
        refine (l2Ints_calls _ _ c.rooms d.rooms _ (Row.below R3.out B3.out) (Row.below U3.out B3.out)).mono ?_
        rintro e w4 ⟨rfl, hb⟩
        have B4 := Lib.hid (Below.trans B3.out (hb.mono (by first | omega | (simp only [szA, szS, szD, World.heap_drewN] at * <;> omega))) : Below w.heap.size w w4)
        have Z4 := hb.size
        have N4 : w3.heap.size ≤ w4.heap.size := (by first | with_reducible exact Z4 | (simp only [szA, szS, szD] at Z4; omega))
        clear Z4
        have Xx_4 := Lib.hid (below_at hb Xx_3.out)
        have Xy_4 := Lib.hid (below_at hb Xy_3.out)
        clear hb
        obtain ⟨cx4_0, cx4_1, cx4_2, cx4_3, cx4_4, fx4_0, fx4_1, fx4_2, fx4_3, fx4_4⟩ := box5 Xx_4.out; have lx4 := heap_lt Xx_4.out
        obtain ⟨cy4_0, cy4_1, cy4_2, cy4_3, cy4_4, fy4_0, fy4_1, fy4_2, fy4_3, fy4_4⟩ := box5 Xy_4.out; have ly4 := heap_lt Xy_4.out
        have S4 : w.heap.size ≤ w4.heap.size := (by omega)
        clear cx3_0 cx3_1 cx3_2 cx3_3 cx3_4 fx3_0 fx3_1 fx3_2 fx3_3 fx3_4 cy3_0 cy3_1 cy3_2 cy3_3 cy3_4 fy3_0 fy3_1 fy3_2 fy3_3 fy3_4
        by_cases g3 : c.rooms = d.rooms
        · rw [decide_eq_true g3]
          have G3 := Lib.hid g3; clear g3
          by_cases hl : c.threads.length = d.threads.length
          · have hd := len_bne hl
            have HL := Lib.hid hl; clear hl
            go_wp2_with (fail)
            go_loopw [5] (fun i wr => ∃ k : Nat, k ≤ c.threads.length ∧ i = .int .i64 k ∧ c.threads.take k = d.threads.take k ∧ wr.heap[w.heap.size]? = some (.cells #[.slice a0 c.sems.length p0, .slice a1 c.groups.length p1, .slice a2 c.barriers.length p2, .slice a3 c.rooms.length p3, .slice a4 c.threads.length p4] 30 (0, 0)) ∧ wr.heap[w.heap.size + 1]? = some (.cells #[.slice b0 d.sems.length q0, .slice b1 d.groups.length q1, .slice b2 d.barriers.length q2, .slice b3 d.rooms.length q3, .slice b4 d.threads.length q4] 30 (0, 0)) ∧ Below w.heap.size w wr) (fun i _ => c.threads.length - (intOf i).toNat)
            case atStart => exact ⟨0, Nat.zero_le _, rfl, rfl, Xx_4.out, Xy_4.out, B4.out⟩
            case round =>
              obtain ⟨k, hk, rfl, he, hx, hy, hb⟩ := hrel
              have HE := Lib.hid he; clear he
              have HB := Lib.hid hb; clear hb
              have hz := HB.out.size
              have XX := Lib.hid hx; have YY := Lib.hid hy; clear hx hy
              obtain ⟨x0, x1, x2, x3, x4, fx0, fx1, fx2, fx3, fx4⟩ := box5 XX.out; have lx := heap_lt XX.out
              obtain ⟨y0, y1, y2, y3, y4, fy0, fy1, fy2, fy3, fy4⟩ := box5 YY.out; have ly := heap_lt YY.out
              by_cases hlt : k < c.threads.length
              · have hlt2 : k < d.threads.length := by have := HL.out; omega
                obtain ⟨_, _, e1, _, _, r4⟩ := R4.out.look; injection e1 with e1 _ e2; subst e1 e2
                obtain ⟨_, _, e1, l2, m2, s4⟩ := U4.out.look; injection e1 with e1 _ e2; subst e1 e2
                obtain ⟨c1, o1, rfl, hb1, hc1⟩ := r4 (by omega)
                obtain ⟨c2, o2, rfl, hb2, hc2⟩ := s4 (by omega)
                obtain ⟨x, hx⟩ := get_ex hlt
                obtain ⟨y, hy⟩ := get_ex hlt2
                obtain ⟨z1, d1, g1, q1'⟩ := hc1 k x hx
                obtain ⟨z2, d2, g2, q2'⟩ := hc2 k y hy
                have k1 := later_cell (B := wr.heap.size) ((HB.out.cell (p := ⟨c1, o1 + k, none⟩) hb1).trans g1) (Nat.lt_of_lt_of_le hb1 hz)
                have k2 := later_cell (B := wr.heap.size) ((HB.out.cell (p := ⟨c2, o2 + k, none⟩) hb2).trans g2) (Nat.lt_of_lt_of_le hb2 hz)
                have k3 := later_cell (B := wr.heap.size) x4 lx
                have k4 := later_cell (B := wr.heap.size) y4 ly
                have Q1 := Lib.hid (Row.below q1' HB.out); have Q2 := Lib.hid (Row.below q2' HB.out)
                have HX := Lib.hid hx; have HY := Lib.hid hy; clear hx hy hc1 hc2 g1 g2 q1' q2'
                go_wp2
                refine wp_region_later wr.heap.size (by kernel_rfl) (by kernel_rfl) ?_
                repeat (go_big_quiet_step ((go_at_call 30; refine (l6Ops_calls _ _ x y _ (Row.later Q1.out _) (Row.later Q2.out _)).mono ?_; rintro e w' ⟨rfl, hb⟩; exact later_call hb)))
                refine wpQuiet_nil ?_
                rintro _ ⟨z, rfl⟩
                go_wp2
                · go_ret
                  exact ⟨ret_bool (decide_eq_false fun e => by have h8 := ne_false HX.out HY.out (by simpa using ‹(!decide (x = y)) = true›); rw [e] at h8; simp at h8).symm, HB.out.trans (z.2.mono hz)⟩
                · go_roundw
                  case rel => exact ⟨k + 1, by omega, by go_num, take_eq HE.out HX.out HY.out (by simpa using ‹(!decide (x = y)) = false›), below_at z.2 XX.out, below_at z.2 YY.out, HB.out.trans (z.2.mono hz)⟩
                  case measure => simp [intOf]; omega
              · have g4 : c.threads = d.threads := by have h8 := all_eq HL.out (by omega) HE.out; simpa using h8
                have G4 := Lib.hid g4; clear g4
                have hcd : c = d := by cases c; cases d; simp only [ProgD.mk.injEq]; exact ⟨G0.out, G1.out, G2.out, G3.out, G4.out⟩
                have HC := Lib.hid hcd; clear hcd
                go_wp2
                go_ret
                exact ⟨ret_bool (decide_eq_true HC.out).symm, HB.out⟩
          · have hd := len_bne' hl
            have HL := Lib.hid hl; clear hl
            go_wp2
            go_ret
            exact ⟨ret_bool (decide_eq_false fun e => HL.out (by rw [e])).symm, B4.out⟩
        · rw [decide_eq_false g3]
          have G3 := Lib.hid g3; clear g3
          go_wp2
          go_ret
          exact ⟨ret_bool (decide_eq_false fun e => G3.out (by rw [e])).symm, B4.out⟩
      · rw [decide_eq_false g2]
        have G2 := Lib.hid g2; clear g2
        go_wp2
        go_ret
        exact ⟨ret_bool (decide_eq_false fun e => G2.out (by rw [e])).symm, B3.out⟩
    · rw [decide_eq_false g1]
      have G1 := Lib.hid g1; clear g1
      go_wp2
      go_ret
      exact ⟨ret_bool (decide_eq_false fun e => G1.out (by rw [e])).symm, B2.out⟩
  · rw [decide_eq_false g0]
    have G0 := Lib.hid g0; clear g0
    go_wp2
    go_ret
    exact ⟨ret_bool (decide_eq_false fun e => G0.out (by rw [e])).symm, B1.out⟩
end Go.Proofs.Ytobkammimkgnkaa
