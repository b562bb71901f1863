/- FnSemOrder: the law's walk (made by gen_semlaws.py). -/
import Derived.Test.YteecnndlaphlpaaDrawsSem
import Derived.Test.YteecnndlaphlpaaLawSem
namespace Go.Proofs.Yteecnndlaphlpaa
open Go.RowKit
set_option linter.unusedSimpArgs false
set_option linter.unusedVariables false
set_option maxHeartbeats 8000000 in
theorem FnSemOrder_calls (v : Value) (bs : List Int) (w : World) (h : Row 1 encB w v bs) (hbs : ∀ x ∈ bs, 0 ≤ x ∧ x ≤ 255) :
    Calls Try.prog 12 #[v] w fun e w' => e = .returned (.bool true) ∧ Below w.heap.size w w' := by
  have HB := Lib.hid hbs; clear hbs
  have H0 := Lib.hid h
  obtain ⟨a, c, rfl, l1, l2, l3⟩ := h
  clear l3
  by_cases hl : bs.length ≤ 1048576
  · go_enter Try.func12, Try.ntmps12
    go_wp2_with (fail)
    refine (DrawAcquire_calls _ bs _ (Row.below H0.out (Below.refl _ _)) HB.out).mono ?_
    rintro e w1 ⟨vs, cs, y0, y1, rfl, ho_s, hfs, ⟨hy00, hy01⟩, ⟨hy10, hy11⟩, hb⟩
    have B1 := Lib.hid (Below.trans (Below.refl _ _) (hb.mono (by first | omega | (simp only [szA, szS, szD, World.heap_drewN] at * <;> omega))) : Below w.heap.size w w1)
    have Z1 := hb.size
    have N1 : w.heap.size ≤ w1.heap.size := (by first | exact Z1 | (simp only [szA, szS, szD] at Z1; omega))
    clear Z1
    have Os_1 := Lib.hid (ho_s.mono (lo' := w.heap.size) (by first | omega | (simp only [szA, szS, szD, World.heap_drewN] at * <;> omega)) (Nat.le_refl _)); obtain ⟨as2, ps2, rfl, hx_s⟩ := ho_s; clear hx_s
    clear hb
    have S1 : w.heap.size ≤ w1.heap.size := by omega
    obtain ⟨r, b1, b2, hr⟩ : ∃ r b1 b2, acq cs y0 y1 = (r, b1, b2) := ⟨_, _, _, rfl⟩
    have HR := Lib.hid hr; clear hr
    go_wp2_with (fail)
    refine (AcquireO _ cs y0 y1 r b1 b2 _ ((Os_1.out.alloc _).row) HR.out).mono ?_
    rintro e w2 ⟨vx, rfl, ho_x, hb⟩
    have B2 := Lib.hid (Below.trans (Below.alloc B1.out (by first | omega | (simp only [szA, szS, szD, World.heap_drewN] at * <;> omega)) _) (hb.mono (by first | omega | (simp only [szA, szS, szD, World.heap_drewN] at * <;> omega))) : Below w.heap.size w w2)
    have Z2 := hb.size
    have N2 : w1.heap.size + 1 ≤ w2.heap.size := (by first | exact Z2 | (simp only [szA, szS, szD] at Z2; omega))
    clear Z2
    have Xs_2 : Hid (w2.heap[w1.heap.size]? = some (.cells #[.int .i64 cs.free, .int .i64 cs.limit, .slice as2 cs.q.length ps2] 26 (0, 0))) := below_at hb (heap_at' (n := w1.heap.size) (by first | omega | (simp only [szA, szS, szD, World.heap_drewN] at * <;> omega)))
    have Os_2 := Lib.hid ((Os_1.out.alloc _).kept hb)
    have Ox_2 := Lib.hid (ho_x.mono (lo' := w.heap.size) (by first | omega | (simp only [szA, szS, szD, World.heap_drewN] at * <;> omega)) (Nat.le_refl _)); obtain ⟨ax2, px2, rfl, hx_x⟩ := ho_x; clear hx_x
    clear hb
    obtain ⟨cs2_0, cs2_1, cs2_2, fs2_0, fs2_1, fs2_2⟩ := box3 Xs_2.out; have ls2 := heap_lt Xs_2.out
    have S2 : w.heap.size ≤ w2.heap.size := by omega
    go_wp2_with (fail)
    refine (sAcquireO _ cs y0 y1 r b1 b2 _ ((Os_2.out.alloc _).row) HR.out).mono ?_
    rintro e w3 ⟨vt, rfl, ho_t, hb⟩
    have B3 := Lib.hid (Below.trans (Below.alloc B2.out (by first | omega | (simp only [szA, szS, szD, World.heap_drewN] at * <;> omega)) _) (hb.mono (by first | omega | (simp only [szA, szS, szD, World.heap_drewN] at * <;> omega))) : Below w.heap.size w w3)
    have Z3 := hb.size
    have N3 : w2.heap.size + 1 ≤ w3.heap.size := (by first | exact Z3 | (simp only [szA, szS, szD] at Z3; omega))
    clear Z3
    have Xs_3 := Lib.hid (below_at hb (heap_up Xs_2.out))
    have Xx_3 : Hid (w3.heap[w2.heap.size]? = some (.cells #[.int .i64 r.free, .int .i64 r.limit, .slice ax2 r.q.length px2] 26 (0, 0))) := below_at hb (heap_at' (n := w2.heap.size) (by first | omega | (simp only [szA, szS, szD, World.heap_drewN] at * <;> omega)))
    have Os_3 := Lib.hid ((Os_2.out.alloc _).kept hb)
    have Ox_3 := Lib.hid ((Ox_2.out.alloc _).kept hb)
    have Ot_3 := Lib.hid (ho_t.mono (lo' := w.heap.size) (by first | omega | (simp only [szA, szS, szD, World.heap_drewN] at * <;> omega)) (Nat.le_refl _)); obtain ⟨at2, pt2, rfl, hx_t⟩ := ho_t; clear hx_t
    clear hb
    obtain ⟨cs3_0, cs3_1, cs3_2, fs3_0, fs3_1, fs3_2⟩ := box3 Xs_3.out; have ls3 := heap_lt Xs_3.out
    obtain ⟨cx3_0, cx3_1, cx3_2, fx3_0, fx3_1, fx3_2⟩ := box3 Xx_3.out; have lx3 := heap_lt Xx_3.out
    have S3 : w.heap.size ≤ w3.heap.size := by omega
    clear cs2_0 cs2_1 cs2_2 fs2_0 fs2_1 fs2_2
    go_wp2_with (fail)
    refine (SemSameO _ _ r r _ ((Ox_3.out.alloc _).row) ((Ot_3.out.alloc _).row)).mono ?_
    rw [decide_eq_true rfl]
    rintro e w4 ⟨rfl, hb⟩
    have B4 := Lib.hid (Below.trans (Below.alloc B3.out (by first | omega | (simp only [szA, szS, szD, World.heap_drewN] at * <;> omega)) _) (hb.mono (by first | omega | (simp only [szA, szS, szD, World.heap_drewN] at * <;> omega))) : Below w.heap.size w w4)
    have Z4 := hb.size
    have N4 : w3.heap.size + 1 ≤ w4.heap.size := (by first | exact Z4 | (simp only [szA, szS, szD] at Z4; omega))
    clear Z4
    have Xs_4 := Lib.hid (below_at hb (heap_up Xs_3.out))
    have Xx_4 := Lib.hid (below_at hb (heap_up Xx_3.out))
    have Xt_4 : Hid (w4.heap[w3.heap.size]? = some (.cells #[.int .i64 r.free, .int .i64 r.limit, .slice at2 r.q.length pt2] 26 (0, 0))) := below_at hb (heap_at' (n := w3.heap.size) (by first | omega | (simp only [szA, szS, szD, World.heap_drewN] at * <;> omega)))
    have Os_4 := Lib.hid ((Os_3.out.alloc _).kept hb)
    have Ox_4 := Lib.hid ((Ox_3.out.alloc _).kept hb)
    have Ot_4 := Lib.hid ((Ot_3.out.alloc _).kept hb)
    clear hb
    obtain ⟨cs4_0, cs4_1, cs4_2, fs4_0, fs4_1, fs4_2⟩ := box3 Xs_4.out; have ls4 := heap_lt Xs_4.out
    obtain ⟨cx4_0, cx4_1, cx4_2, fx4_0, fx4_1, fx4_2⟩ := box3 Xx_4.out; have lx4 := heap_lt Xx_4.out
    obtain ⟨ct4_0, ct4_1, ct4_2, ft4_0, ft4_1, ft4_2⟩ := box3 Xt_4.out; have lt4 := heap_lt Xt_4.out
    have S4 : w.heap.size ≤ w4.heap.size := by omega
    clear cs3_0 cs3_1 cs3_2 fs3_0 fs3_1 fs3_2 cx3_0 cx3_1 cx3_2 fx3_0 fx3_1 fx3_2
    cases b2
    · go_wp2_with (fail)
      refine (SemSameO _ _ r r _ (Ox_4.out.row) (Ot_4.out.row)).mono ?_
      rw [decide_eq_true rfl]
      rintro e w5 ⟨rfl, hb⟩
      have B5 := Lib.hid (Below.trans B4.out (hb.mono (by first | omega | (simp only [szA, szS, szD, World.heap_drewN] at * <;> omega))) : Below w.heap.size w w5)
      have Z5 := hb.size
      have N5 : w4.heap.size ≤ w5.heap.size := (by first | exact Z5 | (simp only [szA, szS, szD] at Z5; omega))
      clear Z5
      have Xs_5 := Lib.hid (below_at hb Xs_4.out)
      have Xx_5 := Lib.hid (below_at hb Xx_4.out)
      have Xt_5 := Lib.hid (below_at hb Xt_4.out)
      have Os_5 := Lib.hid (Os_4.out.kept hb)
      have Ox_5 := Lib.hid (Ox_4.out.kept hb)
      have Ot_5 := Lib.hid (Ot_4.out.kept hb)
      clear hb
      obtain ⟨cs5_0, cs5_1, cs5_2, fs5_0, fs5_1, fs5_2⟩ := box3 Xs_5.out; have ls5 := heap_lt Xs_5.out
      obtain ⟨cx5_0, cx5_1, cx5_2, fx5_0, fx5_1, fx5_2⟩ := box3 Xx_5.out; have lx5 := heap_lt Xx_5.out
      obtain ⟨ct5_0, ct5_1, ct5_2, ft5_0, ft5_1, ft5_2⟩ := box3 Xt_5.out; have lt5 := heap_lt Xt_5.out
      have S5 : w.heap.size ≤ w5.heap.size := by omega
      clear cs4_0 cs4_1 cs4_2 fs4_0 fs4_1 fs4_2 cx4_0 cx4_1 cx4_2 fx4_0 fx4_1 fx4_2 ct4_0 ct4_1 ct4_2 ft4_0 ft4_1 ft4_2
      go_wp2_with (fail)
      go_ret
      exact ⟨rfl, B5.out⟩
    · have HV := Lib.hid (acq_ok HR.out).1
      have hsm := semB_small HV.out
      obtain ⟨m1, m2, m3, m4, m5, _⟩ := hsm
      have hle := (semB_top HV.out).1
      by_cases hc : r.free = r.limit
      · have d1 : (r.free == r.limit) = true := beq_iff_eq.2 hc; clear hc
        go_wp2_with (fail)
        refine (SemSameO _ _ r r _ (Ox_4.out.row) (Ot_4.out.row)).mono ?_
        rw [decide_eq_true rfl]
        rintro e w5 ⟨rfl, hb⟩
        have B5 := Lib.hid (Below.trans B4.out (hb.mono (by first | omega | (simp only [szA, szS, szD, World.heap_drewN] at * <;> omega))) : Below w.heap.size w w5)
        have Z5 := hb.size
        have N5 : w4.heap.size ≤ w5.heap.size := (by first | exact Z5 | (simp only [szA, szS, szD] at Z5; omega))
        clear Z5
        have Xs_5 := Lib.hid (below_at hb Xs_4.out)
        have Xx_5 := Lib.hid (below_at hb Xx_4.out)
        have Xt_5 := Lib.hid (below_at hb Xt_4.out)
        have Os_5 := Lib.hid (Os_4.out.kept hb)
        have Ox_5 := Lib.hid (Ox_4.out.kept hb)
        have Ot_5 := Lib.hid (Ot_4.out.kept hb)
        clear hb
        obtain ⟨cs5_0, cs5_1, cs5_2, fs5_0, fs5_1, fs5_2⟩ := box3 Xs_5.out; have ls5 := heap_lt Xs_5.out
        obtain ⟨cx5_0, cx5_1, cx5_2, fx5_0, fx5_1, fx5_2⟩ := box3 Xx_5.out; have lx5 := heap_lt Xx_5.out
        obtain ⟨ct5_0, ct5_1, ct5_2, ft5_0, ft5_1, ft5_2⟩ := box3 Xt_5.out; have lt5 := heap_lt Xt_5.out
        have S5 : w.heap.size ≤ w5.heap.size := by omega
        clear cs4_0 cs4_1 cs4_2 fs4_0 fs4_1 fs4_2 cx4_0 cx4_1 cx4_2 fx4_0 fx4_1 fx4_2 ct4_0 ct4_1 ct4_2 ft4_0 ft4_1 ft4_2
        go_wp2_with (fail)
        go_ret
        exact ⟨rfl, B5.out⟩
      · have d1 : (r.free == r.limit) = false := beq_eq_false_iff_ne.2 hc
        obtain ⟨r2, y, h2, h3, h4⟩ := rel_rest HV.out hc
        have H2 := Lib.hid h2; have H3 := Lib.hid h3; have H4 := Lib.hid h4; clear h2 h3 h4 hc
        go_wp2_with (fail)
        refine (ReleaseO _ r (r.limit - r.free) r2 y true _ (Ox_4.out.row) H2.out).mono ?_
        rintro e w5 ⟨vg, vy, rfl, ho_g, ho_y, hap, hb⟩
        have B5 := Lib.hid (Below.trans B4.out (hb.mono (by first | omega | (simp only [szA, szS, szD, World.heap_drewN] at * <;> omega))) : Below w.heap.size w w5)
        have Z5 := hb.size
        have N5 : w4.heap.size ≤ w5.heap.size := (by first | exact Z5 | (simp only [szA, szS, szD] at Z5; omega))
        clear Z5
        have Xs_5 := Lib.hid (below_at hb Xs_4.out)
        have Xx_5 := Lib.hid (below_at hb Xx_4.out)
        have Xt_5 := Lib.hid (below_at hb Xt_4.out)
        have Os_5 := Lib.hid (Os_4.out.kept hb)
        have Ox_5 := Lib.hid (Ox_4.out.kept hb)
        have Ot_5 := Lib.hid (Ot_4.out.kept hb)
        have Og_5 := Lib.hid (ho_g.mono (lo' := w.heap.size) (by first | omega | (simp only [szA, szS, szD, World.heap_drewN] at * <;> omega)) (Nat.le_refl _)); obtain ⟨ag2, pg2, rfl, hx_g⟩ := ho_g; clear hx_g
        have Oy_5 := Lib.hid (Own.mono (base' := w.heap.size) ho_y.own (by first | omega | (simp only [szA, szS, szD, World.heap_drewN] at * <;> omega))); obtain ⟨ay, py, rfl, hx_y⟩ := ho_y; clear hx_y
        clear hb
        obtain ⟨cs5_0, cs5_1, cs5_2, fs5_0, fs5_1, fs5_2⟩ := box3 Xs_5.out; have ls5 := heap_lt Xs_5.out
        obtain ⟨cx5_0, cx5_1, cx5_2, fx5_0, fx5_1, fx5_2⟩ := box3 Xx_5.out; have lx5 := heap_lt Xx_5.out
        obtain ⟨ct5_0, ct5_1, ct5_2, ft5_0, ft5_1, ft5_2⟩ := box3 Xt_5.out; have lt5 := heap_lt Xt_5.out
        have S5 : w.heap.size ≤ w5.heap.size := by omega
        clear cs4_0 cs4_1 cs4_2 fs4_0 fs4_1 fs4_2 cx4_0 cx4_1 cx4_2 fx4_0 fx4_1 fx4_2 ct4_0 ct4_1 ct4_2 ft4_0 ft4_1 ft4_2
        clear hap
        go_wp2_with (fail)
        have RY := Lib.hid (IRow.at_ (w := (w5.alloc (.cells #[.int .i64 r2.free, .int .i64 r2.limit, .slice ag2 r2.q.length pg2] 26))) ((Oy_5.out.alloc _).row encI_len)); have RQ := Lib.hid (PRow.at_ (SemRow.at_ (w := (w5.alloc (.cells #[.int .i64 r2.free, .int .i64 r2.limit, .slice ag2 r2.q.length pg2] 26))) ((Ox_5.out.alloc _).row)))
        have hy0 := H3.out.1
        have BB : Hid (Below w.heap.size w (w5.alloc (.cells #[.int .i64 r2.free, .int .i64 r2.limit, .slice ag2 r2.q.length pg2] 26))) := (Below.alloc B5.out (by first | omega | (simp only [szA, szS, szD, World.heap_drewN] at * <;> omega)) _)
        go_loopw [15] (fun i wr => ∃ k : Nat, k ≤ y.length ∧ i = .int .i64 k ∧ ∃ n, wr = (w5.alloc (.cells #[.int .i64 r2.free, .int .i64 r2.limit, .slice ag2 r2.q.length pg2] 26)).drewN n) (fun i _ => y.length - (intOf i).toNat)
        case atStart => exact ⟨0, Nat.zero_le _, rfl, 0, rfl⟩
        case round =>
          obtain ⟨k, hk, rfl, n0, rfl⟩ := hrel
          by_cases hlt : k < y.length
          · obtain ⟨z, hz⟩ := get_ex (show k < r.q.length by omega)
            obtain ⟨b1, o1, rfl, hb1, hc1⟩ := RY.out (by omega)
            obtain ⟨b2, o2, rfl, hb2, hc2⟩ := RQ.out (by omega)
            have k1 := hc1 k z.1 (H3.out.2 k z hz hlt)
            obtain ⟨k3, k4⟩ := hc2 k z hz
            clear hz hc1 hc2
            go_wp2
            go_quiet (fail)
            go_wp2
            go_roundw
            case rel => exact ⟨k + 1, by omega, by go_num, _, rfl⟩
            case measure => simp [intOf]; omega
          · by_cases hq : 0 < r.q.length
            · have e1 := len_ne hq; have e2 := H4.out hq
              go_wp2
              go_ret
              exact ⟨rfl, below_drewN BB.out _⟩
            · have e1 := len_eq hq
              go_wp2
              go_ret
              exact ⟨rfl, below_drewN BB.out _⟩

  · go_enter Try.func12, Try.ntmps12
    go_wp2
    go_ret
    exact ⟨rfl, Below.refl _ _⟩
end Go.Proofs.Yteecnndlaphlpaa
