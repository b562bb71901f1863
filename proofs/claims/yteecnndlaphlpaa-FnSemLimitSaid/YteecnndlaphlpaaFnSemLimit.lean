/- FnSemLimit: the law's walk (made by gen_semlaws.py). -/
import Derived.Test.YteecnndlaphlpaaDrawsSem
import Derived.Test.YteecnndlaphlpaaLawSem
namespace Go.Proofs.Yteecnndlaphlpaa
open Go.RowKit
set_option linter.unusedSimpArgs false
set_option linter.unusedVariables false
set_option maxHeartbeats 8000000 in
theorem FnSemLimit_calls (v : Value) (bs : List Int) (w : World) (h : Row 1 encB w v bs) (hbs : ∀ x ∈ bs, 0 ≤ x ∧ x ≤ 255) :
    Calls Try.prog 4 #[v] w fun e w' => e = .returned (.bool true) ∧ Below w.heap.size w w' := by
  have HB := Lib.hid hbs; clear hbs
  have H0 := Lib.hid h
  obtain ⟨a, c, rfl, l1, l2, l3⟩ := h
  clear l3
  by_cases hl : bs.length ≤ 1048576
  · go_enter Try.func4, Try.ntmps4
    go_wp2_with (fail)
    refine (DrawSemValid_calls _ bs _ (Row.below H0.out (Below.refl _ _)) HB.out).mono ?_
    rintro e w1 ⟨vs, cs, rfl, ho_s, hfs, hb⟩
    have B1 := Lib.hid (Below.trans (Below.refl _ _) (hb.mono (by first | omega | (simp only [szA, szS, szD, World.heap_drewN] at * <;> omega))) : Below w.heap.size w w1)
    have Z1 := hb.size
    have N1 : w.heap.size ≤ w1.heap.size := (by first | exact Z1 | (simp only [szA, szS, szD] at Z1; omega))
    clear Z1
    have Os_1 := Lib.hid (ho_s.mono (lo' := w.heap.size) (by first | omega | (simp only [szA, szS, szD, World.heap_drewN] at * <;> omega)) (Nat.le_refl _)); obtain ⟨as2, ps2, rfl, hx_s⟩ := ho_s; clear hx_s
    clear hb
    have S1 : w.heap.size ≤ w1.heap.size := by omega
    cases hv : semB cs
    · have HV := Lib.hid hv; clear hv
      go_wp2_with (fail)
      refine (SemValidO _ cs _ ((Os_1.out.alloc _).row)).mono ?_
      rw [HV.out]
      rintro e w2 ⟨rfl, hb⟩
      have B2 := Lib.hid (Below.trans (Below.alloc B1.out (by first | omega | (simp only [szA, szS, szD, World.heap_drewN] at * <;> omega)) _) (hb.mono (by first | omega | (simp only [szA, szS, szD, World.heap_drewN] at * <;> omega))) : Below w.heap.size w w2)
      have Z2 := hb.size
      have N2 : w1.heap.size + 1 ≤ w2.heap.size := (by first | exact Z2 | (simp only [szA, szS, szD] at Z2; omega))
      clear Z2
      have Xs_2 : Hid (w2.heap[w1.heap.size]? = some (.cells #[.int .i64 cs.free, .int .i64 cs.limit, .slice as2 cs.q.length ps2] 26 (0, 0))) := below_at hb (heap_at' (n := w1.heap.size) (by first | omega | (simp only [szA, szS, szD, World.heap_drewN] at * <;> omega)))
      have Os_2 := Lib.hid ((Os_1.out.alloc _).kept hb)
      clear hb
      obtain ⟨cs2_0, cs2_1, cs2_2, fs2_0, fs2_1, fs2_2⟩ := box3 Xs_2.out; have ls2 := heap_lt Xs_2.out
      have S2 : w.heap.size ≤ w2.heap.size := by omega
      go_wp2_with (fail)
      refine (sSemValidO _ cs _ (Os_2.out.row)).mono ?_
      rw [HV.out]
      rintro e w3 ⟨rfl, hb⟩
      have B3 := Lib.hid (Below.trans B2.out (hb.mono (by first | omega | (simp only [szA, szS, szD, World.heap_drewN] at * <;> omega))) : Below w.heap.size w w3)
      have Z3 := hb.size
      have N3 : w2.heap.size ≤ w3.heap.size := (by first | exact Z3 | (simp only [szA, szS, szD] at Z3; omega))
      clear Z3
      have Xs_3 := Lib.hid (below_at hb Xs_2.out)
      have Os_3 := Lib.hid (Os_2.out.kept hb)
      clear hb
      obtain ⟨cs3_0, cs3_1, cs3_2, fs3_0, fs3_1, fs3_2⟩ := box3 Xs_3.out; have ls3 := heap_lt Xs_3.out
      have S3 : w.heap.size ≤ w3.heap.size := by omega
      clear cs2_0 cs2_1 cs2_2 fs2_0 fs2_1 fs2_2
      go_wp2_with (fail)
      refine (sSemValidO _ cs _ (Os_3.out.row)).mono ?_
      rw [HV.out]
      rintro e w4 ⟨rfl, hb⟩
      have B4 := Lib.hid (Below.trans B3.out (hb.mono (by first | omega | (simp only [szA, szS, szD, World.heap_drewN] at * <;> omega))) : Below w.heap.size w w4)
      have Z4 := hb.size
      have N4 : w3.heap.size ≤ w4.heap.size := (by first | exact Z4 | (simp only [szA, szS, szD] at Z4; omega))
      clear Z4
      have Xs_4 := Lib.hid (below_at hb Xs_3.out)
      have Os_4 := Lib.hid (Os_3.out.kept hb)
      clear hb
      obtain ⟨cs4_0, cs4_1, cs4_2, fs4_0, fs4_1, fs4_2⟩ := box3 Xs_4.out; have ls4 := heap_lt Xs_4.out
      have S4 : w.heap.size ≤ w4.heap.size := by omega
      clear cs3_0 cs3_1 cs3_2 fs3_0 fs3_1 fs3_2
      go_wp2_with (fail)
      go_ret
      exact ⟨rfl, B4.out⟩
    · have HV := Lib.hid hv; clear hv
      have hsm := semB_small HV.out
      obtain ⟨m1, m2, m3, m4, _, _⟩ := hsm
      obtain ⟨m5, m6⟩ := semB_top HV.out
      have M6 := Lib.hid m6; clear m6
      go_wp2_with (fail)
      refine (SemValidO _ cs _ ((Os_1.out.alloc _).row)).mono ?_
      rw [HV.out]
      rintro e w2 ⟨rfl, hb⟩
      have B2 := Lib.hid (Below.trans (Below.alloc B1.out (by first | omega | (simp only [szA, szS, szD, World.heap_drewN] at * <;> omega)) _) (hb.mono (by first | omega | (simp only [szA, szS, szD, World.heap_drewN] at * <;> omega))) : Below w.heap.size w w2)
      have Z2 := hb.size
      have N2 : w1.heap.size + 1 ≤ w2.heap.size := (by first | exact Z2 | (simp only [szA, szS, szD] at Z2; omega))
      clear Z2
      have Xs_2 : Hid (w2.heap[w1.heap.size]? = some (.cells #[.int .i64 cs.free, .int .i64 cs.limit, .slice as2 cs.q.length ps2] 26 (0, 0))) := below_at hb (heap_at' (n := w1.heap.size) (by first | omega | (simp only [szA, szS, szD, World.heap_drewN] at * <;> omega)))
      have Os_2 := Lib.hid ((Os_1.out.alloc _).kept hb)
      clear hb
      obtain ⟨cs2_0, cs2_1, cs2_2, fs2_0, fs2_1, fs2_2⟩ := box3 Xs_2.out; have ls2 := heap_lt Xs_2.out
      have S2 : w.heap.size ≤ w2.heap.size := by omega
      go_wp2_with (fail)
      refine (sSemValidO _ cs _ (Os_2.out.row)).mono ?_
      rw [HV.out]
      rintro e w3 ⟨rfl, hb⟩
      have B3 := Lib.hid (Below.trans B2.out (hb.mono (by first | omega | (simp only [szA, szS, szD, World.heap_drewN] at * <;> omega))) : Below w.heap.size w w3)
      have Z3 := hb.size
      have N3 : w2.heap.size ≤ w3.heap.size := (by first | exact Z3 | (simp only [szA, szS, szD] at Z3; omega))
      clear Z3
      have Xs_3 := Lib.hid (below_at hb Xs_2.out)
      have Os_3 := Lib.hid (Os_2.out.kept hb)
      clear hb
      obtain ⟨cs3_0, cs3_1, cs3_2, fs3_0, fs3_1, fs3_2⟩ := box3 Xs_3.out; have ls3 := heap_lt Xs_3.out
      have S3 : w.heap.size ≤ w3.heap.size := by omega
      clear cs2_0 cs2_1 cs2_2 fs2_0 fs2_1 fs2_2
      go_wp2_with (fail)
      refine (ReleaseO _ cs (cs.limit - cs.free + 1) SemD.zero [] false _ (Os_3.out.row) (rel_over cs)).mono ?_
      rintro e w4 ⟨vx, vy, rfl, ho_x, ho_y, hap, hb⟩
      have B4 := Lib.hid (Below.trans B3.out (hb.mono (by first | omega | (simp only [szA, szS, szD, World.heap_drewN] at * <;> omega))) : Below w.heap.size w w4)
      have Z4 := hb.size
      have N4 : w3.heap.size ≤ w4.heap.size := (by first | exact Z4 | (simp only [szA, szS, szD] at Z4; omega))
      clear Z4
      have Xs_4 := Lib.hid (below_at hb Xs_3.out)
      have Os_4 := Lib.hid (Os_3.out.kept hb)
      have Ox_4 := Lib.hid (ho_x.mono (lo' := w.heap.size) (by first | omega | (simp only [szA, szS, szD, World.heap_drewN] at * <;> omega)) (Nat.le_refl _)); obtain ⟨ax2, px2, rfl, hx_x⟩ := ho_x; clear hx_x
      have Oy_4 := Lib.hid (Own.mono (base' := w.heap.size) ho_y.own (by first | omega | (simp only [szA, szS, szD, World.heap_drewN] at * <;> omega))); obtain ⟨ay, py, rfl, hx_y⟩ := ho_y; clear hx_y
      clear hb
      obtain ⟨cs4_0, cs4_1, cs4_2, fs4_0, fs4_1, fs4_2⟩ := box3 Xs_4.out; have ls4 := heap_lt Xs_4.out
      have S4 : w.heap.size ≤ w4.heap.size := by omega
      clear cs3_0 cs3_1 cs3_2 fs3_0 fs3_1 fs3_2
      clear hap
      by_cases hc : cs.free < cs.limit
      · have d1 := decide_eq_true hc
        go_wp2_with (fail)
        go_ret
        exact ⟨rfl, (Below.alloc B4.out (by first | omega | (simp only [szA, szS, szD, World.heap_drewN] at * <;> omega)) _)⟩
      · have d1 := decide_eq_false hc
        have d2 := len_eq (n := cs.q.length) (by have := M6.out (by first | exact hc | exact Int.not_lt.1 hc); omega)
        go_wp2_with (fail)
        go_ret
        exact ⟨rfl, (Below.alloc B4.out (by first | omega | (simp only [szA, szS, szD, World.heap_drewN] at * <;> omega)) _)⟩

  · go_enter Try.func4, Try.ntmps4
    go_wp2
    go_ret
    exact ⟨rfl, Below.refl _ _⟩
end Go.Proofs.Yteecnndlaphlpaa
