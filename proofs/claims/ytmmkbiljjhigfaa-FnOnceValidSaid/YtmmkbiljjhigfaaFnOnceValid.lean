/- FnOnceValid: the law's walk (made by gen_oncelaws.py). -/
import Derived.Test.YtmmkbiljjhigfaaDrawsOnce
import Derived.Test.YtmmkbiljjhigfaaLawOnce
namespace Go.Proofs.Ytmmkbiljjhigfaa
open Go.RowKit
set_option linter.unusedSimpArgs false
set_option linter.unusedVariables false
set_option maxHeartbeats 8000000 in
theorem FnOnceValid_calls (v : Value) (bs : List Int) (w : World) (h : Row 1 encB w v bs) (hbs : ∀ x ∈ bs, 0 ≤ x ∧ x ≤ 255) :
    Calls Try.prog 5 #[v] w fun e w' => e = .returned (.bool true) ∧ Below w.heap.size w w' := by
  have HB := Lib.hid hbs; clear hbs
  have H0 := Lib.hid h
  obtain ⟨a, c, rfl, l1, l2, l3⟩ := h
  clear l3
  by_cases hl : bs.length ≤ 1048576
  · go_enter Try.func5, Try.ntmps5
    go_wp2_with (fail)
    refine (DrawOnceValid_calls _ bs _ (Row.below H0.out (Below.refl _ _)) HB.out).mono ?_
    rintro e w1 ⟨vs, cs, rfl, ho_s, hfs, hb⟩
    have B1 := Lib.hid (Below.trans (Below.refl _ _) (hb.mono (by first | omega | (simp only [szA, szS, szD, World.heap_drewN] at * <;> omega))) : Below w.heap.size w w1)
    have Z1 := hb.size
    have N1 : w.heap.size ≤ w1.heap.size := (by first | exact Z1 | (simp only [szA, szS, szD] at Z1; omega))
    clear Z1
    have Os_1 := Lib.hid (ho_s.mono (lo' := w.heap.size) (by first | omega | (simp only [szA, szS, szD, World.heap_drewN] at * <;> omega)) (Nat.le_refl _)); obtain ⟨as3, ps3, rfl, hx_s⟩ := ho_s; clear hx_s
    clear hb
    have S1 : w.heap.size ≤ w1.heap.size := by omega
    cases hv : onceB cs
    · have HV := Lib.hid hv; clear hv
      go_wp2_with (fail)
      refine (OnceValid_calls _ cs _ ((Os_1.out.alloc _).row)).mono ?_
      rw [HV.out]
      rintro e w2 ⟨rfl, hb⟩
      have B2 := Lib.hid (Below.trans (Below.alloc B1.out (by first | omega | (simp only [szA, szS, szD, World.heap_drewN] at * <;> omega)) _) (hb.mono (by first | omega | (simp only [szA, szS, szD, World.heap_drewN] at * <;> omega))) : Below w.heap.size w w2)
      have Z2 := hb.size
      have N2 : w1.heap.size + 1 ≤ w2.heap.size := (by first | exact Z2 | (simp only [szA, szS, szD] at Z2; omega))
      clear Z2
      have Xs_2 : Hid (w2.heap[w1.heap.size]? = some (.cells #[.int .i64 cs.state, .int .i64 cs.owner, .int .i64 cs.value, .slice as3 cs.waits.length ps3] 25 (0, 0))) := below_at hb (heap_at' (n := w1.heap.size) (by first | omega | (simp only [szA, szS, szD, World.heap_drewN] at * <;> omega)))
      have Os_2 := Lib.hid ((Os_1.out.alloc _).kept hb)
      clear hb
      obtain ⟨cs2_0, cs2_1, cs2_2, cs2_3, fs2_0, fs2_1, fs2_2, fs2_3⟩ := box4 Xs_2.out; have ls2 := heap_lt Xs_2.out
      have S2 : w.heap.size ≤ w2.heap.size := by omega
      go_wp2_with (fail)
      refine (sOnceValid_calls _ cs _ (Os_2.out.row)).mono ?_
      rw [HV.out]
      rintro e w3 ⟨rfl, hb⟩
      have B3 := Lib.hid (Below.trans B2.out (hb.mono (by first | omega | (simp only [szA, szS, szD, World.heap_drewN] at * <;> omega))) : Below w.heap.size w w3)
      have Z3 := hb.size
      have N3 : w2.heap.size ≤ w3.heap.size := (by first | exact Z3 | (simp only [szA, szS, szD] at Z3; omega))
      clear Z3
      have Xs_3 := Lib.hid (below_at hb Xs_2.out)
      have Os_3 := Lib.hid (Os_2.out.kept hb)
      clear hb
      obtain ⟨cs3_0, cs3_1, cs3_2, cs3_3, fs3_0, fs3_1, fs3_2, fs3_3⟩ := box4 Xs_3.out; have ls3 := heap_lt Xs_3.out
      have S3 : w.heap.size ≤ w3.heap.size := by omega
      clear cs2_0 cs2_1 cs2_2 cs2_3 fs2_0 fs2_1 fs2_2 fs2_3
      go_wp2_with (fail)
      refine (sOnceValid_calls _ cs _ (Os_3.out.row)).mono ?_
      rw [HV.out]
      rintro e w4 ⟨rfl, hb⟩
      have B4 := Lib.hid (Below.trans B3.out (hb.mono (by first | omega | (simp only [szA, szS, szD, World.heap_drewN] at * <;> omega))) : Below w.heap.size w w4)
      have Z4 := hb.size
      have N4 : w3.heap.size ≤ w4.heap.size := (by first | exact Z4 | (simp only [szA, szS, szD] at Z4; omega))
      clear Z4
      have Xs_4 := Lib.hid (below_at hb Xs_3.out)
      have Os_4 := Lib.hid (Os_3.out.kept hb)
      clear hb
      obtain ⟨cs4_0, cs4_1, cs4_2, cs4_3, fs4_0, fs4_1, fs4_2, fs4_3⟩ := box4 Xs_4.out; have ls4 := heap_lt Xs_4.out
      have S4 : w.heap.size ≤ w4.heap.size := by omega
      clear cs3_0 cs3_1 cs3_2 cs3_3 fs3_0 fs3_1 fs3_2 fs3_3
      go_wp2_with (fail)
      go_ret
      exact ⟨rfl, B4.out⟩
    · have HV := Lib.hid hv; clear hv
      obtain ⟨m1, m2⟩ := once_owner HV.out
      go_wp2_with (fail)
      refine (OnceValid_calls _ cs _ ((Os_1.out.alloc _).row)).mono ?_
      rw [HV.out]
      rintro e w2 ⟨rfl, hb⟩
      have B2 := Lib.hid (Below.trans (Below.alloc B1.out (by first | omega | (simp only [szA, szS, szD, World.heap_drewN] at * <;> omega)) _) (hb.mono (by first | omega | (simp only [szA, szS, szD, World.heap_drewN] at * <;> omega))) : Below w.heap.size w w2)
      have Z2 := hb.size
      have N2 : w1.heap.size + 1 ≤ w2.heap.size := (by first | exact Z2 | (simp only [szA, szS, szD] at Z2; omega))
      clear Z2
      have Xs_2 : Hid (w2.heap[w1.heap.size]? = some (.cells #[.int .i64 cs.state, .int .i64 cs.owner, .int .i64 cs.value, .slice as3 cs.waits.length ps3] 25 (0, 0))) := below_at hb (heap_at' (n := w1.heap.size) (by first | omega | (simp only [szA, szS, szD, World.heap_drewN] at * <;> omega)))
      have Os_2 := Lib.hid ((Os_1.out.alloc _).kept hb)
      clear hb
      obtain ⟨cs2_0, cs2_1, cs2_2, cs2_3, fs2_0, fs2_1, fs2_2, fs2_3⟩ := box4 Xs_2.out; have ls2 := heap_lt Xs_2.out
      have S2 : w.heap.size ≤ w2.heap.size := by omega
      go_wp2_with (fail)
      refine (sOnceValid_calls _ cs _ (Os_2.out.row)).mono ?_
      rw [HV.out]
      rintro e w3 ⟨rfl, hb⟩
      have B3 := Lib.hid (Below.trans B2.out (hb.mono (by first | omega | (simp only [szA, szS, szD, World.heap_drewN] at * <;> omega))) : Below w.heap.size w w3)
      have Z3 := hb.size
      have N3 : w2.heap.size ≤ w3.heap.size := (by first | exact Z3 | (simp only [szA, szS, szD] at Z3; omega))
      clear Z3
      have Xs_3 := Lib.hid (below_at hb Xs_2.out)
      have Os_3 := Lib.hid (Os_2.out.kept hb)
      clear hb
      obtain ⟨cs3_0, cs3_1, cs3_2, cs3_3, fs3_0, fs3_1, fs3_2, fs3_3⟩ := box4 Xs_3.out; have ls3 := heap_lt Xs_3.out
      have S3 : w.heap.size ≤ w3.heap.size := by omega
      clear cs2_0 cs2_1 cs2_2 cs2_3 fs2_0 fs2_1 fs2_2 fs2_3
      obtain ⟨r, st, b1, hr⟩ : ∃ r st b1, enter cs ((cs.owner + 1) % 6) = (r, st, b1) := ⟨_, _, _, rfl⟩
      have HR := Lib.hid hr; clear hr
      by_cases h2 : cs.state = 2
      · have d2 : (cs.state == 2) = true := beq_iff_eq.2 h2
        have he := HR.out; rw [enter_done HV.out h2 (next_thr _)] at he; injection he with e1 he; injection he with e2 e3; subst e1 e2 e3; clear h2
        go_wp2_with (fail)
        refine (EnterOnceO _ cs ((cs.owner + 1) % 6) cs 2 true _ (Os_3.out.row) HR.out).mono ?_
        rintro e w4 ⟨vx, rfl, ho_x, hb⟩
        have B4 := Lib.hid (Below.trans B3.out (hb.mono (by first | omega | (simp only [szA, szS, szD, World.heap_drewN] at * <;> omega))) : Below w.heap.size w w4)
        have Z4 := hb.size
        have N4 : w3.heap.size ≤ w4.heap.size := (by first | exact Z4 | (simp only [szA, szS, szD] at Z4; omega))
        clear Z4
        have Xs_4 := Lib.hid (below_at hb Xs_3.out)
        have Os_4 := Lib.hid (Os_3.out.kept hb)
        have Ox_4 := Lib.hid (ho_x.mono (lo' := w.heap.size) (by first | omega | (simp only [szA, szS, szD, World.heap_drewN] at * <;> omega)) (Nat.le_refl _)); obtain ⟨ax3, px3, rfl, hx_x⟩ := ho_x; clear hx_x
        clear hb
        obtain ⟨cs4_0, cs4_1, cs4_2, cs4_3, fs4_0, fs4_1, fs4_2, fs4_3⟩ := box4 Xs_4.out; have ls4 := heap_lt Xs_4.out
        have S4 : w.heap.size ≤ w4.heap.size := by omega
        clear cs3_0 cs3_1 cs3_2 cs3_3 fs3_0 fs3_1 fs3_2 fs3_3
        go_wp2_with (fail)
        go_ret
        exact ⟨rfl, (Below.alloc B4.out (by first | omega | (simp only [szA, szS, szD, World.heap_drewN] at * <;> omega)) _)⟩
      · have d2 : (cs.state == 2) = false := beq_eq_false_iff_ne.2 h2
        by_cases h0 : cs.state = 0
        · have d0 : (cs.state == 0) = true := beq_iff_eq.2 h0
          have HZ := Lib.hid (once_zero HV.out h0)
          have he := HR.out; rw [enter_new HV.out h0 (next_thr _)] at he; injection he with e1 he; injection he with e2 e3; have E1 := Lib.hid e1; clear e1; subst e2 e3; clear h0 h2
          go_wp2_with (fail)
          refine (EnterOnceO _ cs ((cs.owner + 1) % 6) r 0 true _ (Os_3.out.row) HR.out).mono ?_
          rintro e w4 ⟨vx, rfl, ho_x, hb⟩
          have B4 := Lib.hid (Below.trans B3.out (hb.mono (by first | omega | (simp only [szA, szS, szD, World.heap_drewN] at * <;> omega))) : Below w.heap.size w w4)
          have Z4 := hb.size
          have N4 : w3.heap.size ≤ w4.heap.size := (by first | exact Z4 | (simp only [szA, szS, szD] at Z4; omega))
          clear Z4
          have Xs_4 := Lib.hid (below_at hb Xs_3.out)
          have Os_4 := Lib.hid (Os_3.out.kept hb)
          have Ox_4 := Lib.hid (ho_x.mono (lo' := w.heap.size) (by first | omega | (simp only [szA, szS, szD, World.heap_drewN] at * <;> omega)) (Nat.le_refl _)); obtain ⟨ax3, px3, rfl, hx_x⟩ := ho_x; clear hx_x
          clear hb
          obtain ⟨cs4_0, cs4_1, cs4_2, cs4_3, fs4_0, fs4_1, fs4_2, fs4_3⟩ := box4 Xs_4.out; have ls4 := heap_lt Xs_4.out
          have S4 : w.heap.size ≤ w4.heap.size := by omega
          clear cs3_0 cs3_1 cs3_2 cs3_3 fs3_0 fs3_1 fs3_2 fs3_3
          go_wp2_with (fail)
          refine (OnceSameO _ _ cs OnceD.zero _ ((Os_4.out.alloc _).row) (zeroRow _)).mono ?_
          rw [decide_eq_true HZ.out]
          rintro e w5 ⟨rfl, hb⟩
          have B5 := Lib.hid (Below.trans (Below.alloc B4.out (by first | omega | (simp only [szA, szS, szD, World.heap_drewN] at * <;> omega)) _) (hb.mono (by first | omega | (simp only [szA, szS, szD, World.heap_drewN] at * <;> omega))) : Below w.heap.size w w5)
          have Z5 := hb.size
          have N5 : w4.heap.size + 1 ≤ w5.heap.size := (by first | exact Z5 | (simp only [szA, szS, szD] at Z5; omega))
          clear Z5
          have Xs_5 := Lib.hid (below_at hb (heap_up Xs_4.out))
          have Xx_5 : Hid (w5.heap[w4.heap.size]? = some (.cells #[.int .i64 r.state, .int .i64 r.owner, .int .i64 r.value, .slice ax3 r.waits.length px3] 25 (0, 0))) := below_at hb (heap_at' (n := w4.heap.size) (by first | omega | (simp only [szA, szS, szD, World.heap_drewN] at * <;> omega)))
          have Os_5 := Lib.hid ((Os_4.out.alloc _).kept hb)
          have Ox_5 := Lib.hid ((Ox_4.out.alloc _).kept hb)
          clear hb
          obtain ⟨cs5_0, cs5_1, cs5_2, cs5_3, fs5_0, fs5_1, fs5_2, fs5_3⟩ := box4 Xs_5.out; have ls5 := heap_lt Xs_5.out
          obtain ⟨cx5_0, cx5_1, cx5_2, cx5_3, fx5_0, fx5_1, fx5_2, fx5_3⟩ := box4 Xx_5.out; have lx5 := heap_lt Xx_5.out
          have S5 : w.heap.size ≤ w5.heap.size := by omega
          clear cs4_0 cs4_1 cs4_2 cs4_3 fs4_0 fs4_1 fs4_2 fs4_3
          go_wp2_with (fail)
          go_ret
          exact ⟨rfl, B5.out⟩
        · have d0 : (cs.state == 0) = false := beq_eq_false_iff_ne.2 h0
          obtain ⟨k1, k2⟩ := once_runs HV.out h0 h2
          have K1 := Lib.hid k1; clear k1 h0 h2
          have d3 : (cs.value == 0) = true := beq_iff_eq.2 k2
          clear k2
          go_wp2_with (fail)
          refine (EnterOnceO _ cs ((cs.owner + 1) % 6) r st b1 _ (Os_3.out.row) HR.out).mono ?_
          rintro e w4 ⟨vx, rfl, ho_x, hb⟩
          have B4 := Lib.hid (Below.trans B3.out (hb.mono (by first | omega | (simp only [szA, szS, szD, World.heap_drewN] at * <;> omega))) : Below w.heap.size w w4)
          have Z4 := hb.size
          have N4 : w3.heap.size ≤ w4.heap.size := (by first | exact Z4 | (simp only [szA, szS, szD] at Z4; omega))
          clear Z4
          have Xs_4 := Lib.hid (below_at hb Xs_3.out)
          have Os_4 := Lib.hid (Os_3.out.kept hb)
          have Ox_4 := Lib.hid (ho_x.mono (lo' := w.heap.size) (by first | omega | (simp only [szA, szS, szD, World.heap_drewN] at * <;> omega)) (Nat.le_refl _)); obtain ⟨ax3, px3, rfl, hx_x⟩ := ho_x; clear hx_x
          clear hb
          obtain ⟨cs4_0, cs4_1, cs4_2, cs4_3, fs4_0, fs4_1, fs4_2, fs4_3⟩ := box4 Xs_4.out; have ls4 := heap_lt Xs_4.out
          have S4 : w.heap.size ≤ w4.heap.size := by omega
          clear cs3_0 cs3_1 cs3_2 cs3_3 fs3_0 fs3_1 fs3_2 fs3_3
          cases b1
          · go_wp2_with (fail)
            go_ret
            exact ⟨rfl, (Below.alloc B4.out (by first | omega | (simp only [szA, szS, szD, World.heap_drewN] at * <;> omega)) _)⟩
          · have e0 := enter_runs K1.out HR.out
            have e1 : ((r.waits.length : Int) == (cs.waits.length : Int) + 1) = true := beq_iff_eq.2 (by omega)
            have e2 := onceB_len HV.out
            clear e0
            go_wp2_with (fail)
            go_ret
            exact ⟨rfl, (Below.alloc B4.out (by first | omega | (simp only [szA, szS, szD, World.heap_drewN] at * <;> omega)) _)⟩

  · go_enter Try.func5, Try.ntmps5
    go_wp2
    go_ret
    exact ⟨rfl, Below.refl _ _⟩
end Go.Proofs.Ytmmkbiljjhigfaa
