/- FnOpShared: the law's walk (made by gen_oplaws.py). -/
import Derived.Test.YtobkammimkgnkaaDrawOps
import Derived.Test.YtobkammimkgnkaaOpValid
import Derived.Test.YtobkammimkgnkaaG1
namespace Go.Proofs.Ytobkammimkgnkaa
open Go.RowKit
set_option linter.unusedSimpArgs false
set_option linter.unusedVariables false
theorem opB_under {c : ProgD} (k a : Int) : opB c (k, -1, a) = false := opB_no (by unfold OpOk; dsimp only; omega)
theorem opB_over {c : ProgD} (h : ProgLow c) (k a : Int) : opB c (k, 3, a) = false := opB_no (by obtain ⟨h1, h2, h3, h4, _⟩ := h; unfold OpOk; dsimp only; omega)
set_option maxRecDepth 100000 in
set_option maxHeartbeats 6400000 in
theorem FnOpShared_calls (v : Value) (bs : List Int) (w : World) (h : Row 1 encB w v bs) (hbs : ∀ x ∈ bs, 0 ≤ x ∧ x ≤ 255) :
    Calls Try.prog 7 #[v] w fun e w' => e = .returned (.bool true) ∧ Below w.heap.size w w' := by
  have HB := Lib.hid hbs; clear hbs
  have H0 := Lib.hid h
  obtain ⟨a, c, rfl, l1, l2, l3⟩ := h
  clear l3
  by_cases hl : bs.length ≤ 1048576
  · go_enter Try.func7, Try.ntmps7
    go_wp2_with (fail)
    refine (DrawOpValid_calls _ bs _ (Row.below H0.out (Below.refl _ _)) HB.out).mono ?_
    rintro e w1 ⟨vd, c, ⟨x0, x1, x2⟩, rfl, ho_d, hld, hx, hb⟩
    have B1 := Lib.hid (Below.trans (Below.refl _ _) (hb.mono (by first | omega | (simp only [szA, szS, szD, World.heap_drewN] at * <;> omega))) : Below w.heap.size w w1)
    have Z1 := hb.size
    have N1 : w.heap.size ≤ w1.heap.size := (by first | with_reducible exact Z1 | (simp only [szA, szS, szD] at Z1; omega))
    clear Z1
    have Od_1 := Lib.hid (ho_d.mono (lo' := w.heap.size) (by first | omega | (simp only [szA, szS, szD, World.heap_drewN] at * <;> omega)) (Nat.le_refl _)); obtain ⟨ad0, pd0, ad1, pd1, ad2, pd2, ad3, pd3, ad4, pd4, rfl, hx_d⟩ := ho_d; clear hx_d
    clear hb
    have S1 : w.heap.size ≤ w1.heap.size := (by omega)
    have HLo := Lib.hid hld; clear hld hx
    cases hv : opB c (x0, x1, x2)
    · have HV := Lib.hid hv; clear hv
      go_wp2_with (fail)
      refine (OpValidO _ c (x0, x1, x2) _ (((Od_1.out.alloc _).alloc _).row)).mono ?_
      rw [HV.out]
      rintro e w2 ⟨rfl, hb⟩
      have B2 := Lib.hid (Below.trans (Below.alloc (Below.alloc B1.out (by first | omega | (simp only [szA, szS, szD, World.heap_drewN] at * <;> omega)) _) (by first | omega | (simp only [szA, szS, szD, World.heap_drewN] at * <;> omega)) _) (hb.mono (by first | omega | (simp only [szA, szS, szD, World.heap_drewN] at * <;> omega))) : Below w.heap.size w w2)
      have Z2 := hb.size
      have N2 : w1.heap.size + 2 ≤ w2.heap.size := (by first | with_reducible exact Z2 | (simp only [szA, szS, szD] at Z2; omega))
      clear Z2
      have Xp_2 : Hid (w2.heap[w1.heap.size]? = some (.cells #[.slice ad0 c.sems.length pd0, .slice ad1 c.groups.length pd1, .slice ad2 c.barriers.length pd2, .slice ad3 c.rooms.length pd3, .slice ad4 c.threads.length pd4] 30 (0, 0))) := below_at hb (heap_up (heap_at' (n := w1.heap.size) (by first | omega | (simp only [szA, szS, szD, World.heap_drewN] at * <;> omega))))
      have Xo_2 : Hid (w2.heap[w1.heap.size + 1]? = some (.cells #[.int .i64 x0, .int .i64 x1, .int .i64 x2] 36 (0, 0))) := below_at hb (heap_at' (n := w1.heap.size + 1) (by first | omega | (simp only [szA, szS, szD, World.heap_drewN] at * <;> omega)))
      have Od_2 := Lib.hid (((Od_1.out.alloc _).alloc _).kept hb)
      clear hb
      obtain ⟨cp2_0, cp2_1, cp2_2, cp2_3, cp2_4, fp2_0, fp2_1, fp2_2, fp2_3, fp2_4⟩ := box5 Xp_2.out; have lp2 := heap_lt Xp_2.out
      obtain ⟨co2_0, co2_1, co2_2, fo2_0, fo2_1, fo2_2⟩ := box3 Xo_2.out; have lo2 := heap_lt Xo_2.out
      have S2 : w.heap.size ≤ w2.heap.size := (by omega)
      go_wp2_with (fail)
      refine (sOpValidO _ c (x0, x1, x2) _ (Od_2.out.row)).mono ?_
      rw [HV.out]
      rintro e w3 ⟨rfl, hb⟩
      have B3 := Lib.hid (Below.trans B2.out (hb.mono (by first | omega | (simp only [szA, szS, szD, World.heap_drewN] at * <;> omega))) : Below w.heap.size w w3)
      have Z3 := hb.size
      have N3 : w2.heap.size ≤ w3.heap.size := (by first | with_reducible exact Z3 | (simp only [szA, szS, szD] at Z3; omega))
      clear Z3
      have Xp_3 := Lib.hid (below_at hb Xp_2.out)
      have Xo_3 := Lib.hid (below_at hb Xo_2.out)
      have Od_3 := Lib.hid (Od_2.out.kept hb)
      clear hb
      obtain ⟨cp3_0, cp3_1, cp3_2, cp3_3, cp3_4, fp3_0, fp3_1, fp3_2, fp3_3, fp3_4⟩ := box5 Xp_3.out; have lp3 := heap_lt Xp_3.out
      obtain ⟨co3_0, co3_1, co3_2, fo3_0, fo3_1, fo3_2⟩ := box3 Xo_3.out; have lo3 := heap_lt Xo_3.out
      have S3 : w.heap.size ≤ w3.heap.size := (by omega)
      clear cp2_0 cp2_1 cp2_2 cp2_3 cp2_4 fp2_0 fp2_1 fp2_2 fp2_3 fp2_4 co2_0 co2_1 co2_2 fo2_0 fo2_1 fo2_2
      go_wp2_with (fail)
      refine (sOpValidO _ c (x0, x1, x2) _ (Od_3.out.row)).mono ?_
      rw [HV.out]
      rintro e w4 ⟨rfl, hb⟩
      have B4 := Lib.hid (Below.trans B3.out (hb.mono (by first | omega | (simp only [szA, szS, szD, World.heap_drewN] at * <;> omega))) : Below w.heap.size w w4)
      have Z4 := hb.size
      have N4 : w3.heap.size ≤ w4.heap.size := (by first | with_reducible exact Z4 | (simp only [szA, szS, szD] at Z4; omega))
      clear Z4
      have Xp_4 := Lib.hid (below_at hb Xp_3.out)
      have Xo_4 := Lib.hid (below_at hb Xo_3.out)
      have Od_4 := Lib.hid (Od_3.out.kept hb)
      clear hb
      obtain ⟨cp4_0, cp4_1, cp4_2, cp4_3, cp4_4, fp4_0, fp4_1, fp4_2, fp4_3, fp4_4⟩ := box5 Xp_4.out; have lp4 := heap_lt Xp_4.out
      obtain ⟨co4_0, co4_1, co4_2, fo4_0, fo4_1, fo4_2⟩ := box3 Xo_4.out; have lo4 := heap_lt Xo_4.out
      have S4 : w.heap.size ≤ w4.heap.size := (by omega)
      clear cp3_0 cp3_1 cp3_2 cp3_3 cp3_4 fp3_0 fp3_1 fp3_2 fp3_3 fp3_4 co3_0 co3_1 co3_2 fo3_0 fo3_1 fo3_2
      go_wp2
      go_ret
      exact ⟨rfl, B4.out⟩
    · have HV := Lib.hid hv; clear hv
      go_wp2_with (fail)
      refine (OpValidO _ c (x0, x1, x2) _ (((Od_1.out.alloc _).alloc _).row)).mono ?_
      rw [HV.out]
      rintro e w2 ⟨rfl, hb⟩
      have B2 := Lib.hid (Below.trans (Below.alloc (Below.alloc B1.out (by first | omega | (simp only [szA, szS, szD, World.heap_drewN] at * <;> omega)) _) (by first | omega | (simp only [szA, szS, szD, World.heap_drewN] at * <;> omega)) _) (hb.mono (by first | omega | (simp only [szA, szS, szD, World.heap_drewN] at * <;> omega))) : Below w.heap.size w w2)
      have Z2 := hb.size
      have N2 : w1.heap.size + 2 ≤ w2.heap.size := (by first | with_reducible exact Z2 | (simp only [szA, szS, szD] at Z2; omega))
      clear Z2
      have Xp_2 : Hid (w2.heap[w1.heap.size]? = some (.cells #[.slice ad0 c.sems.length pd0, .slice ad1 c.groups.length pd1, .slice ad2 c.barriers.length pd2, .slice ad3 c.rooms.length pd3, .slice ad4 c.threads.length pd4] 30 (0, 0))) := below_at hb (heap_up (heap_at' (n := w1.heap.size) (by first | omega | (simp only [szA, szS, szD, World.heap_drewN] at * <;> omega))))
      have Xo_2 : Hid (w2.heap[w1.heap.size + 1]? = some (.cells #[.int .i64 x0, .int .i64 x1, .int .i64 x2] 36 (0, 0))) := below_at hb (heap_at' (n := w1.heap.size + 1) (by first | omega | (simp only [szA, szS, szD, World.heap_drewN] at * <;> omega)))
      have Od_2 := Lib.hid (((Od_1.out.alloc _).alloc _).kept hb)
      clear hb
      obtain ⟨cp2_0, cp2_1, cp2_2, cp2_3, cp2_4, fp2_0, fp2_1, fp2_2, fp2_3, fp2_4⟩ := box5 Xp_2.out; have lp2 := heap_lt Xp_2.out
      obtain ⟨co2_0, co2_1, co2_2, fo2_0, fo2_1, fo2_2⟩ := box3 Xo_2.out; have lo2 := heap_lt Xo_2.out
      have S2 : w.heap.size ≤ w2.heap.size := (by omega)
      go_wp2_with (fail)
      refine (sOpValidO _ c (x0, x1, x2) _ (Od_2.out.row)).mono ?_
      rw [HV.out]
      rintro e w3 ⟨rfl, hb⟩
      have B3 := Lib.hid (Below.trans B2.out (hb.mono (by first | omega | (simp only [szA, szS, szD, World.heap_drewN] at * <;> omega))) : Below w.heap.size w w3)
      have Z3 := hb.size
      have N3 : w2.heap.size ≤ w3.heap.size := (by first | with_reducible exact Z3 | (simp only [szA, szS, szD] at Z3; omega))
      clear Z3
      have Xp_3 := Lib.hid (below_at hb Xp_2.out)
      have Xo_3 := Lib.hid (below_at hb Xo_2.out)
      have Od_3 := Lib.hid (Od_2.out.kept hb)
      clear hb
      obtain ⟨cp3_0, cp3_1, cp3_2, cp3_3, cp3_4, fp3_0, fp3_1, fp3_2, fp3_3, fp3_4⟩ := box5 Xp_3.out; have lp3 := heap_lt Xp_3.out
      obtain ⟨co3_0, co3_1, co3_2, fo3_0, fo3_1, fo3_2⟩ := box3 Xo_3.out; have lo3 := heap_lt Xo_3.out
      have S3 : w.heap.size ≤ w3.heap.size := (by omega)
      clear cp2_0 cp2_1 cp2_2 cp2_3 cp2_4 fp2_0 fp2_1 fp2_2 fp2_3 fp2_4 co2_0 co2_1 co2_2 fo2_0 fo2_1 fo2_2
      have HA := Lib.hid (opB_under (c := c) x0 x2); have HC := Lib.hid (opB_over HLo.out x0 x2)
      go_wp2_with (fail)
      refine (OpValidO _ c (x0, -1, x2) _ (((Od_3.out.alloc _).alloc _).row)).mono ?_
      rw [HA.out]
      rintro e w4 ⟨rfl, hb⟩
      have B4 := Lib.hid (Below.trans (Below.alloc (Below.alloc B3.out (by first | omega | (simp only [szA, szS, szD, World.heap_drewN] at * <;> omega)) _) (by first | omega | (simp only [szA, szS, szD, World.heap_drewN] at * <;> omega)) _) (hb.mono (by first | omega | (simp only [szA, szS, szD, World.heap_drewN] at * <;> omega))) : Below w.heap.size w w4)
      have Z4 := hb.size
      have N4 : w3.heap.size + 2 ≤ w4.heap.size := (by first | with_reducible exact Z4 | (simp only [szA, szS, szD] at Z4; omega))
      clear Z4
      have Xp_4 := Lib.hid (below_at hb (heap_up (heap_up Xp_3.out)))
      have Xo_4 := Lib.hid (below_at hb (heap_up (heap_up Xo_3.out)))
      have Xy_4 : Hid (w4.heap[w3.heap.size]? = some (.cells #[.int .i64 x0, .int .i64 (-1), .int .i64 x2] 36 (0, 0))) := below_at hb (heap_up (heap_at' (n := w3.heap.size) (by first | omega | (simp only [szA, szS, szD, World.heap_drewN] at * <;> omega))))
      have Xz_4 : Hid (w4.heap[w3.heap.size + 1]? = some (.cells #[.int .i64 x0, .int .i64 3, .int .i64 x2] 36 (0, 0))) := below_at hb (heap_at' (n := w3.heap.size + 1) (by first | omega | (simp only [szA, szS, szD, World.heap_drewN] at * <;> omega)))
      have Od_4 := Lib.hid (((Od_3.out.alloc _).alloc _).kept hb)
      clear hb
      obtain ⟨cp4_0, cp4_1, cp4_2, cp4_3, cp4_4, fp4_0, fp4_1, fp4_2, fp4_3, fp4_4⟩ := box5 Xp_4.out; have lp4 := heap_lt Xp_4.out
      obtain ⟨co4_0, co4_1, co4_2, fo4_0, fo4_1, fo4_2⟩ := box3 Xo_4.out; have lo4 := heap_lt Xo_4.out
      obtain ⟨cy4_0, cy4_1, cy4_2, fy4_0, fy4_1, fy4_2⟩ := box3 Xy_4.out; have ly4 := heap_lt Xy_4.out
      obtain ⟨cz4_0, cz4_1, cz4_2, fz4_0, fz4_1, fz4_2⟩ := box3 Xz_4.out; have lz4 := heap_lt Xz_4.out
      have S4 : w.heap.size ≤ w4.heap.size := (by omega)
      clear cp3_0 cp3_1 cp3_2 cp3_3 cp3_4 fp3_0 fp3_1 fp3_2 fp3_3 fp3_4 co3_0 co3_1 co3_2 fo3_0 fo3_1 fo3_2
      go_wp2_with (fail)
      refine (OpValidO _ c (x0, 3, x2) _ (Od_4.out.row)).mono ?_
      rw [HC.out]
      rintro e w5 ⟨rfl, hb⟩
      have B5 := Lib.hid (Below.trans B4.out (hb.mono (by first | omega | (simp only [szA, szS, szD, World.heap_drewN] at * <;> omega))) : Below w.heap.size w w5)
      have Z5 := hb.size
      have N5 : w4.heap.size ≤ w5.heap.size := (by first | with_reducible exact Z5 | (simp only [szA, szS, szD] at Z5; omega))
      clear Z5
      have Xp_5 := Lib.hid (below_at hb Xp_4.out)
      have Xo_5 := Lib.hid (below_at hb Xo_4.out)
      have Xy_5 := Lib.hid (below_at hb Xy_4.out)
      have Xz_5 := Lib.hid (below_at hb Xz_4.out)
      have Od_5 := Lib.hid (Od_4.out.kept hb)
      clear hb
      obtain ⟨cp5_0, cp5_1, cp5_2, cp5_3, cp5_4, fp5_0, fp5_1, fp5_2, fp5_3, fp5_4⟩ := box5 Xp_5.out; have lp5 := heap_lt Xp_5.out
      obtain ⟨co5_0, co5_1, co5_2, fo5_0, fo5_1, fo5_2⟩ := box3 Xo_5.out; have lo5 := heap_lt Xo_5.out
      obtain ⟨cy5_0, cy5_1, cy5_2, fy5_0, fy5_1, fy5_2⟩ := box3 Xy_5.out; have ly5 := heap_lt Xy_5.out
      obtain ⟨cz5_0, cz5_1, cz5_2, fz5_0, fz5_1, fz5_2⟩ := box3 Xz_5.out; have lz5 := heap_lt Xz_5.out
      have S5 : w.heap.size ≤ w5.heap.size := (by omega)
      clear cp4_0 cp4_1 cp4_2 cp4_3 cp4_4 fp4_0 fp4_1 fp4_2 fp4_3 fp4_4 co4_0 co4_1 co4_2 fo4_0 fo4_1 fo4_2 cy4_0 cy4_1 cy4_2 fy4_0 fy4_1 fy4_2 cz4_0 cz4_1 cz4_2 fz4_0 fz4_1 fz4_2
      go_wp2
      go_ret
      exact ⟨rfl, B5.out⟩
  · go_enter Try.func7, Try.ntmps7
    go_wp2
    go_ret
    exact ⟨rfl, Below.refl _ _⟩
end Go.Proofs.Ytobkammimkgnkaa
