/- What is drawn for the laws on onces (made by gen_draws.py). -/
import Derived.Test.YtmmkbiljjhigfaaDrawOnce1
import Derived.Test.YtmmkbiljjhigfaaDWOnce
import Derived.Test.YtmmkbiljjhigfaaDrawsOut
namespace Go.Proofs.Ytmmkbiljjhigfaa
open Go.RowKit
set_option linter.unusedSimpArgs false
set_option linter.unusedVariables false
set_option maxHeartbeats 1600000 in
theorem DrawOnceValid_calls (v : Value) (bs : List Int) (w : World) (h : Row 1 encB w v bs) (hbs : ∀ x ∈ bs, 0 ≤ x ∧ x ≤ 255) :
    Calls Try.prog 18 #[v] w fun e w' => ∃ v' c', e = .returned v' ∧ OnceOwn w.heap.size w'.heap.size w' v' c' ∧ OnceFew 8 c' ∧ Below w.heap.size w w' := by
  have H0 := Lib.hid h; have HBS := Lib.hid hbs; clear h hbs
  go_enter Try.func18, Try.ntmps18
  go_wp2_with (fail)
  refine (l13Open_calls v bs _ (Row.below H0.out (Below.alloc (Below.refl _ _) (by first | omega | (simp only [szA, szS, szD, World.heap_drewN] at * <;> omega)) _)) HBS.out).mono ?_
  rintro e w1 ⟨rfl, hr, hb⟩
  have B1 := Lib.hid (Below.trans (Below.alloc (Below.refl _ _) (by first | omega | (simp only [szA, szS, szD, World.heap_drewN] at * <;> omega)) _) (hb.mono (by first | omega | (simp only [szA, szS, szD, World.heap_drewN] at * <;> omega))) : Below w.heap.size w w1)
  have Z1 := hb.size
  have N1 : w.heap.size + 1 ≤ w1.heap.size := (by first | exact Z1 | (simp only [szA, szS, szD] at Z1; omega))
  clear Z1
  have Xres_1 : Hid (w1.heap[w.heap.size]? = some (.cells #[.int .i64 0, .int .i64 0, .int .i64 0, .slice none 0 0] 25 (0, 0))) := below_at hb (heap_at' (n := w.heap.size) (by first | omega | (simp only [szA, szS, szD, World.heap_drewN] at * <;> omega)))
  clear hb
  obtain ⟨cres1_0, cres1_1, cres1_2, cres1_3, fres1_0, fres1_1, fres1_2, fres1_3⟩ := box4 Xres_1.out; have lres1 := heap_lt Xres_1.out
  have S1 : w.heap.size ≤ w1.heap.size := by omega
  simp only [szA] at hr
  have A1 := Lib.hid (Dr.start hr); have hlt := hr.lt; clear hr
  have S1 : w1.heap.size ≤ w1.heap.size := Nat.le_refl _
  have SB : w.heap.size ≤ w1.heap.size := by omega
  go_wp2_with (fail)
  refine (l2DrawOnce_calls (w.heap.size + 1) 0 w1 _ A1.out (by omega)).mono ?_
  rintro e w2 ⟨vd, cd, rfl, ho_d, hfd, hd⟩
  have A2 := Lib.hid (Dr.then A1.out hd)
  have Z2 := hd.size
  have N2 : w1.heap.size ≤ w2.heap.size := (by first | exact Z2 | (simp only [szA, szS, szD] at Z2; omega))
  clear Z2
  have Xres_2 := Lib.hid (hd.at_ Xres_1.out (by first | omega | (simp only [szA, szS, szD, World.heap_drewN] at * <;> omega)))
  have Od_2 := Lib.hid (ho_d.mono (lo' := w1.heap.size) (by first | omega | (simp only [szA, szS, szD, World.heap_drewN] at * <;> omega)) (Nat.le_refl _)); obtain ⟨ad3, pd3, rfl, hx_d⟩ := ho_d; clear hx_d
  clear hd
  obtain ⟨cres2_0, cres2_1, cres2_2, cres2_3, fres2_0, fres2_1, fres2_2, fres2_3⟩ := box4 Xres_2.out; have lres2 := heap_lt Xres_2.out
  have S2 : w1.heap.size ≤ w2.heap.size := by omega
  clear cres1_0 cres1_1 cres1_2 cres1_3 fres1_0 fres1_1 fres1_2 fres1_3
  go_wp2_with (fail)
  refine (l2WrongOnce_calls (w.heap.size + 1) (0 + 100) 6 _ cd w1 _ A2.out (by omega) (Od_2.out.row) hfd (by omega)).mono ?_
  rintro e w3 ⟨vga, cg0, rfl, ho_ga, hfga, hd⟩
  have A3 := Lib.hid (Dr.then A2.out hd)
  have Z3 := hd.size
  have N3 : w2.heap.size ≤ w3.heap.size := (by first | exact Z3 | (simp only [szA, szS, szD] at Z3; omega))
  clear Z3
  have Xres_3 := Lib.hid (hd.at_ Xres_2.out (by first | omega | (simp only [szA, szS, szD, World.heap_drewN] at * <;> omega)))
  have Od_3 := Lib.hid (Od_2.out.past hd.g hlt)
  have Oga_3 := Lib.hid (ho_ga.mono (lo' := w1.heap.size) (by first | omega | (simp only [szA, szS, szD, World.heap_drewN] at * <;> omega)) (Nat.le_refl _)); obtain ⟨aga3, pga3, rfl, hx_ga⟩ := ho_ga; clear hx_ga
  clear hd
  obtain ⟨cres3_0, cres3_1, cres3_2, cres3_3, fres3_0, fres3_1, fres3_2, fres3_3⟩ := box4 Xres_3.out; have lres3 := heap_lt Xres_3.out
  have S3 : w1.heap.size ≤ w3.heap.size := by omega
  clear cres2_0 cres2_1 cres2_2 cres2_3 fres2_0 fres2_1 fres2_2 fres2_3
  go_wp2_with (fail)
  refine (l2WrongOnce_calls (w.heap.size + 1) (0 + 103) 7 _ cg0 w1 _ A3.out (by omega) (Oga_3.out.row) hfga (by omega)).mono ?_
  rintro e w4 ⟨vgb, cg1, rfl, ho_gb, hfgb, hd⟩
  have A4 := Lib.hid (Dr.then A3.out hd)
  have Z4 := hd.size
  have N4 : w3.heap.size ≤ w4.heap.size := (by first | exact Z4 | (simp only [szA, szS, szD] at Z4; omega))
  clear Z4
  have Xres_4 := Lib.hid (hd.at_ Xres_3.out (by first | omega | (simp only [szA, szS, szD, World.heap_drewN] at * <;> omega)))
  have Oga_4 := Lib.hid (Oga_3.out.past hd.g hlt)
  have Ogb_4 := Lib.hid (ho_gb.mono (lo' := w1.heap.size) (by first | omega | (simp only [szA, szS, szD, World.heap_drewN] at * <;> omega)) (Nat.le_refl _)); obtain ⟨agb3, pgb3, rfl, hx_gb⟩ := ho_gb; clear hx_gb
  clear hd
  obtain ⟨cres4_0, cres4_1, cres4_2, cres4_3, fres4_0, fres4_1, fres4_2, fres4_3⟩ := box4 Xres_4.out; have lres4 := heap_lt Xres_4.out
  have S4 : w1.heap.size ≤ w4.heap.size := by omega
  clear cres3_0 cres3_1 cres3_2 cres3_3 fres3_0 fres3_1 fres3_2 fres3_3
  go_wp2_with (fail)
  refine bodyPost_ret (v := .agg #[.int .i64 cg1.state, .int .i64 cg1.owner, .int .i64 cg1.value, .slice agb3 cg1.waits.length pgb3]) (by simp [results, Try.results18, go_sem, cres4_0, cres4_1, cres4_2, cres4_3, lres4]) rfl ⟨_, cg1, rfl, ((((Ogb_4.out.setB (w.heap.size) 0 Xres_4.out (by decide) (.int .i64 cg1.state)).setB (w.heap.size) 1 (set_at (a := ⟨w.heap.size, 0, none⟩) Xres_4.out rfl rfl (.int .i64 cg1.state)) (by decide) (.int .i64 cg1.owner)).setB (w.heap.size) 2 (set_at (a := ⟨w.heap.size, 1, none⟩) (set_at (a := ⟨w.heap.size, 0, none⟩) Xres_4.out rfl rfl (.int .i64 cg1.state)) rfl rfl (.int .i64 cg1.owner)) (by decide) (.int .i64 cg1.value)).setB (w.heap.size) 3 (set_at (a := ⟨w.heap.size, 2, none⟩) (set_at (a := ⟨w.heap.size, 1, none⟩) (set_at (a := ⟨w.heap.size, 0, none⟩) Xres_4.out rfl rfl (.int .i64 cg1.state)) rfl rfl (.int .i64 cg1.owner)) rfl rfl (.int .i64 cg1.value)) (by decide) (.slice agb3 cg1.waits.length pgb3)).mono (by first | omega | (simp only [szA, szS, szD, World.heap_drewN] at * <;> omega)) (by first | omega | (simp only [szA, szS, szD, World.heap_drewN] at * <;> omega)), hfgb, (below_setAt (below_setAt (below_setAt (below_setAt (Dr.out B1.out A4.out (by omega)) (w.heap.size) 0 (by first | omega | (simp only [szA, szS, szD, World.heap_drewN] at * <;> omega)) (.int .i64 cg1.state)) (w.heap.size) 1 (by first | omega | (simp only [szA, szS, szD, World.heap_drewN] at * <;> omega)) (.int .i64 cg1.owner)) (w.heap.size) 2 (by first | omega | (simp only [szA, szS, szD, World.heap_drewN] at * <;> omega)) (.int .i64 cg1.value)) (w.heap.size) 3 (by first | omega | (simp only [szA, szS, szD, World.heap_drewN] at * <;> omega)) (.slice agb3 cg1.waits.length pgb3))⟩
set_option maxHeartbeats 1600000 in
theorem DrawEnterOnce_calls (v : Value) (bs : List Int) (w : World) (h : Row 1 encB w v bs) (hbs : ∀ x ∈ bs, 0 ≤ x ∧ x ≤ 255) :
    Calls Try.prog 13 #[v] w fun e w' => ∃ v' c' y0, e = .returned (.tuple #[v', .int .i64 y0]) ∧ OnceOwn w.heap.size w'.heap.size w' v' c' ∧ OnceFew 7 c' ∧ (0 ≤ y0 ∧ y0 ≤ 6) ∧ Below w.heap.size w w' := by
  have H0 := Lib.hid h; have HBS := Lib.hid hbs; clear h hbs
  go_enter Try.func13, Try.ntmps13
  go_wp2_with (fail)
  refine (l13Open_calls v bs _ (Row.below H0.out (Below.alloc (Below.refl _ _) (by first | omega | (simp only [szA, szS, szD, World.heap_drewN] at * <;> omega)) _)) HBS.out).mono ?_
  rintro e w1 ⟨rfl, hr, hb⟩
  have B1 := Lib.hid (Below.trans (Below.alloc (Below.refl _ _) (by first | omega | (simp only [szA, szS, szD, World.heap_drewN] at * <;> omega)) _) (hb.mono (by first | omega | (simp only [szA, szS, szD, World.heap_drewN] at * <;> omega))) : Below w.heap.size w w1)
  have Z1 := hb.size
  have N1 : w.heap.size + 1 ≤ w1.heap.size := (by first | exact Z1 | (simp only [szA, szS, szD] at Z1; omega))
  clear Z1
  have Xres_1 : Hid (w1.heap[w.heap.size]? = some (.cells #[.int .i64 0, .int .i64 0, .int .i64 0, .slice none 0 0] 25 (0, 0))) := below_at hb (heap_at' (n := w.heap.size) (by first | omega | (simp only [szA, szS, szD, World.heap_drewN] at * <;> omega)))
  clear hb
  obtain ⟨cres1_0, cres1_1, cres1_2, cres1_3, fres1_0, fres1_1, fres1_2, fres1_3⟩ := box4 Xres_1.out; have lres1 := heap_lt Xres_1.out
  have S1 : w.heap.size ≤ w1.heap.size := by omega
  simp only [szA] at hr
  have A1 := Lib.hid (Dr.start hr); have hlt := hr.lt; clear hr
  have S1 : w1.heap.size ≤ w1.heap.size := Nat.le_refl _
  have SB : w.heap.size ≤ w1.heap.size := by omega
  go_wp2_with (fail)
  refine (l2DrawOnce_calls (w.heap.size + 1) 0 w1 _ A1.out (by omega)).mono ?_
  rintro e w2 ⟨vd, cd, rfl, ho_d, hfd, hd⟩
  have A2 := Lib.hid (Dr.then A1.out hd)
  have Z2 := hd.size
  have N2 : w1.heap.size ≤ w2.heap.size := (by first | exact Z2 | (simp only [szA, szS, szD] at Z2; omega))
  clear Z2
  have Xres_2 := Lib.hid (hd.at_ Xres_1.out (by first | omega | (simp only [szA, szS, szD, World.heap_drewN] at * <;> omega)))
  have Od_2 := Lib.hid (ho_d.mono (lo' := w1.heap.size) (by first | omega | (simp only [szA, szS, szD, World.heap_drewN] at * <;> omega)) (Nat.le_refl _)); obtain ⟨ad3, pd3, rfl, hx_d⟩ := ho_d; clear hx_d
  clear hd
  obtain ⟨cres2_0, cres2_1, cres2_2, cres2_3, fres2_0, fres2_1, fres2_2, fres2_3⟩ := box4 Xres_2.out; have lres2 := heap_lt Xres_2.out
  have S2 : w1.heap.size ≤ w2.heap.size := by omega
  clear cres1_0 cres1_1 cres1_2 cres1_3 fres1_0 fres1_1 fres1_2 fres1_3
  go_wp2_with (fail)
  refine (l2WrongOnce_calls (w.heap.size + 1) (0 + 100) 6 _ cd w1 _ A2.out (by omega) (Od_2.out.row) hfd (by omega)).mono ?_
  rintro e w3 ⟨vg, cg, rfl, ho_g, hfg, hd⟩
  have A3 := Lib.hid (Dr.then A2.out hd)
  have Z3 := hd.size
  have N3 : w2.heap.size ≤ w3.heap.size := (by first | exact Z3 | (simp only [szA, szS, szD] at Z3; omega))
  clear Z3
  have Xres_3 := Lib.hid (hd.at_ Xres_2.out (by first | omega | (simp only [szA, szS, szD, World.heap_drewN] at * <;> omega)))
  have Od_3 := Lib.hid (Od_2.out.past hd.g hlt)
  have Og_3 := Lib.hid (ho_g.mono (lo' := w1.heap.size) (by first | omega | (simp only [szA, szS, szD, World.heap_drewN] at * <;> omega)) (Nat.le_refl _)); obtain ⟨ag3, pg3, rfl, hx_g⟩ := ho_g; clear hx_g
  clear hd
  obtain ⟨cres3_0, cres3_1, cres3_2, cres3_3, fres3_0, fres3_1, fres3_2, fres3_3⟩ := box4 Xres_3.out; have lres3 := heap_lt Xres_3.out
  have S3 : w1.heap.size ≤ w3.heap.size := by omega
  clear cres2_0 cres2_1 cres2_2 cres2_3 fres2_0 fres2_1 fres2_2 fres2_3
  go_wp2_with (fail)
  refine (numD (w.heap.size + 1) (0 + 103) _ [0, 1, 2, 3, 5, 6] w1 _ (A3.out.alloc _) (by omega) (lit_row _ (by decide) rfl rfl (by first | omega | (simp only [szA, szS, szD, World.heap_drewN] at * <;> omega))) (by decide) (by simp [Value.ownBlock]; omega)).mono ?_
  rintro e w4 ⟨y0, rfl, hy0, hd⟩
  have A4 := Lib.hid (Dr.then (A3.out.alloc _) hd)
  have Z4 := hd.size
  have N4 : w3.heap.size + 1 ≤ w4.heap.size := (by first | exact Z4 | (simp only [szA, szS, szD] at Z4; omega))
  clear Z4
  have Xres_4 := Lib.hid (hd.at_ (heap_up Xres_3.out) (by first | omega | (simp only [szA, szS, szD, World.heap_drewN] at * <;> omega)))
  have Og_4 := Lib.hid ((Og_3.out.alloc _).past hd.g hlt)
  clear hd
  obtain ⟨cres4_0, cres4_1, cres4_2, cres4_3, fres4_0, fres4_1, fres4_2, fres4_3⟩ := box4 Xres_4.out; have lres4 := heap_lt Xres_4.out
  have S4 : w1.heap.size ≤ w4.heap.size := by omega
  clear cres3_0 cres3_1 cres3_2 cres3_3 fres3_0 fres3_1 fres3_2 fres3_3
  have hy0b : 0 ≤ y0 ∧ y0 ≤ 6 := by simp at hy0; omega
  obtain ⟨hy00, hy01⟩ := hy0b; clear hy0
  go_wp2_with (fail)
  refine bodyPost_ret (v := .tuple #[.agg #[.int .i64 cg.state, .int .i64 cg.owner, .int .i64 cg.value, .slice ag3 cg.waits.length pg3], .int .i64 y0]) (by simp [results, Try.results13, go_sem, cres4_0, cres4_1, cres4_2, cres4_3, lres4]) rfl ⟨_, cg, y0, rfl, ((((Og_4.out.setB (w.heap.size) 0 Xres_4.out (by decide) (.int .i64 cg.state)).setB (w.heap.size) 1 (set_at (a := ⟨w.heap.size, 0, none⟩) Xres_4.out rfl rfl (.int .i64 cg.state)) (by decide) (.int .i64 cg.owner)).setB (w.heap.size) 2 (set_at (a := ⟨w.heap.size, 1, none⟩) (set_at (a := ⟨w.heap.size, 0, none⟩) Xres_4.out rfl rfl (.int .i64 cg.state)) rfl rfl (.int .i64 cg.owner)) (by decide) (.int .i64 cg.value)).setB (w.heap.size) 3 (set_at (a := ⟨w.heap.size, 2, none⟩) (set_at (a := ⟨w.heap.size, 1, none⟩) (set_at (a := ⟨w.heap.size, 0, none⟩) Xres_4.out rfl rfl (.int .i64 cg.state)) rfl rfl (.int .i64 cg.owner)) rfl rfl (.int .i64 cg.value)) (by decide) (.slice ag3 cg.waits.length pg3)).mono (by first | omega | (simp only [szA, szS, szD, World.heap_drewN] at * <;> omega)) (by first | omega | (simp only [szA, szS, szD, World.heap_drewN] at * <;> omega)), hfg, ⟨hy00, hy01⟩, (below_setAt (below_setAt (below_setAt (below_setAt (Dr.out B1.out A4.out (by omega)) (w.heap.size) 0 (by first | omega | (simp only [szA, szS, szD, World.heap_drewN] at * <;> omega)) (.int .i64 cg.state)) (w.heap.size) 1 (by first | omega | (simp only [szA, szS, szD, World.heap_drewN] at * <;> omega)) (.int .i64 cg.owner)) (w.heap.size) 2 (by first | omega | (simp only [szA, szS, szD, World.heap_drewN] at * <;> omega)) (.int .i64 cg.value)) (w.heap.size) 3 (by first | omega | (simp only [szA, szS, szD, World.heap_drewN] at * <;> omega)) (.slice ag3 cg.waits.length pg3))⟩
set_option maxHeartbeats 3200000 in
theorem DrawFinishOnce_calls (v : Value) (bs : List Int) (w : World) (h : Row 1 encB w v bs) (hbs : ∀ x ∈ bs, 0 ≤ x ∧ x ≤ 255) :
    Calls Try.prog 25 #[v] w fun e w' => ∃ v' c' y1 y2, e = .returned (.tuple #[v', .int .i64 y1, .int .i64 y2]) ∧ OnceOwn w.heap.size w'.heap.size w' v' c' ∧ OnceFew 7 c' ∧ Below w.heap.size w w' := by
  have H0 := Lib.hid h; have HBS := Lib.hid hbs; clear h hbs
  go_enter Try.func25, Try.ntmps25
  go_wp2_with (fail)
  refine (l13Open_calls v bs _ (Row.below H0.out (Below.alloc (Below.refl _ _) (by first | omega | (simp only [szA, szS, szD, World.heap_drewN] at * <;> omega)) _)) HBS.out).mono ?_
  rintro e w1 ⟨rfl, hr, hb⟩
  have B1 := Lib.hid (Below.trans (Below.alloc (Below.refl _ _) (by first | omega | (simp only [szA, szS, szD, World.heap_drewN] at * <;> omega)) _) (hb.mono (by first | omega | (simp only [szA, szS, szD, World.heap_drewN] at * <;> omega))) : Below w.heap.size w w1)
  have Z1 := hb.size
  have N1 : w.heap.size + 1 ≤ w1.heap.size := (by first | exact Z1 | (simp only [szA, szS, szD] at Z1; omega))
  clear Z1
  have Xres_1 : Hid (w1.heap[w.heap.size]? = some (.cells #[.int .i64 0, .int .i64 0, .int .i64 0, .slice none 0 0] 25 (0, 0))) := below_at hb (heap_at' (n := w.heap.size) (by first | omega | (simp only [szA, szS, szD, World.heap_drewN] at * <;> omega)))
  clear hb
  obtain ⟨cres1_0, cres1_1, cres1_2, cres1_3, fres1_0, fres1_1, fres1_2, fres1_3⟩ := box4 Xres_1.out; have lres1 := heap_lt Xres_1.out
  have S1 : w.heap.size ≤ w1.heap.size := by omega
  simp only [szA] at hr
  have A1 := Lib.hid (Dr.start hr); have hlt := hr.lt; clear hr
  have S1 : w1.heap.size ≤ w1.heap.size := Nat.le_refl _
  have SB : w.heap.size ≤ w1.heap.size := by omega
  go_wp2_with (fail)
  refine (l2DrawOnce_calls (w.heap.size + 1) 0 w1 _ A1.out (by omega)).mono ?_
  rintro e w2 ⟨vd, cd, rfl, ho_d, hfd, hd⟩
  have A2 := Lib.hid (Dr.then A1.out hd)
  have Z2 := hd.size
  have N2 : w1.heap.size ≤ w2.heap.size := (by first | exact Z2 | (simp only [szA, szS, szD] at Z2; omega))
  clear Z2
  have Xres_2 := Lib.hid (hd.at_ Xres_1.out (by first | omega | (simp only [szA, szS, szD, World.heap_drewN] at * <;> omega)))
  have Od_2 := Lib.hid (ho_d.mono (lo' := w1.heap.size) (by first | omega | (simp only [szA, szS, szD, World.heap_drewN] at * <;> omega)) (Nat.le_refl _)); obtain ⟨ad3, pd3, rfl, hx_d⟩ := ho_d; clear hx_d
  clear hd
  obtain ⟨cres2_0, cres2_1, cres2_2, cres2_3, fres2_0, fres2_1, fres2_2, fres2_3⟩ := box4 Xres_2.out; have lres2 := heap_lt Xres_2.out
  have S2 : w1.heap.size ≤ w2.heap.size := by omega
  clear cres1_0 cres1_1 cres1_2 cres1_3 fres1_0 fres1_1 fres1_2 fres1_3
  go_wp2_with (fail)
  refine (l2WrongOnce_calls (w.heap.size + 1) (0 + 100) 6 _ cd w1 _ A2.out (by omega) (Od_2.out.row) hfd (by omega)).mono ?_
  rintro e w3 ⟨vg, cg, rfl, ho_g, hfg, hd⟩
  have A3 := Lib.hid (Dr.then A2.out hd)
  have Z3 := hd.size
  have N3 : w2.heap.size ≤ w3.heap.size := (by first | exact Z3 | (simp only [szA, szS, szD] at Z3; omega))
  clear Z3
  have Xres_3 := Lib.hid (hd.at_ Xres_2.out (by first | omega | (simp only [szA, szS, szD, World.heap_drewN] at * <;> omega)))
  have Od_3 := Lib.hid (Od_2.out.past hd.g hlt)
  have Og_3 := Lib.hid (ho_g.mono (lo' := w1.heap.size) (by first | omega | (simp only [szA, szS, szD, World.heap_drewN] at * <;> omega)) (Nat.le_refl _)); obtain ⟨ag3, pg3, rfl, hx_g⟩ := ho_g; clear hx_g
  clear hd
  obtain ⟨cres3_0, cres3_1, cres3_2, cres3_3, fres3_0, fres3_1, fres3_2, fres3_3⟩ := box4 Xres_3.out; have lres3 := heap_lt Xres_3.out
  have S3 : w1.heap.size ≤ w3.heap.size := by omega
  clear cres2_0 cres2_1 cres2_2 cres2_3 fres2_0 fres2_1 fres2_2 fres2_3
  go_wp2_with (fail)
  refine (pickD (w.heap.size + 1) (0 + 103) 3 w1 _ (A3.out.alloc _) (by omega) (by decide)).mono ?_
  rintro e w4 ⟨x, rfl, hx0, hx1, hd⟩
  have A4 := Lib.hid (Dr.then (A3.out.alloc _) hd)
  have Z4 := hd.size
  have N4 : w3.heap.size + 1 ≤ w4.heap.size := (by first | exact Z4 | (simp only [szA, szS, szD] at Z4; omega))
  clear Z4
  have Xres_4 := Lib.hid (hd.at_ (heap_up Xres_3.out) (by first | omega | (simp only [szA, szS, szD, World.heap_drewN] at * <;> omega)))
  have Xo_4 : Hid (w4.heap[w3.heap.size]? = some (.cells #[.int .i64 cg.state, .int .i64 cg.owner, .int .i64 cg.value, .slice ag3 cg.waits.length pg3] 25 (0, 0))) := hd.at_ (heap_at' (n := w3.heap.size) (by first | omega | (simp only [szA, szS, szD, World.heap_drewN] at * <;> omega))) (by first | omega | (simp only [szA, szS, szD, World.heap_drewN] at * <;> omega))
  have Og_4 := Lib.hid ((Og_3.out.alloc _).past hd.g hlt)
  clear hd
  obtain ⟨cres4_0, cres4_1, cres4_2, cres4_3, fres4_0, fres4_1, fres4_2, fres4_3⟩ := box4 Xres_4.out; have lres4 := heap_lt Xres_4.out
  obtain ⟨co4_0, co4_1, co4_2, co4_3, fo4_0, fo4_1, fo4_2, fo4_3⟩ := box4 Xo_4.out; have lo4 := heap_lt Xo_4.out
  have S4 : w1.heap.size ≤ w4.heap.size := by omega
  clear cres3_0 cres3_1 cres3_2 cres3_3 fres3_0 fres3_1 fres3_2 fres3_3
  have nn : w.heap.size ≠ w3.heap.size := by omega
  have nn2 := nn.symm
  by_cases h0 : 0 < x
  · have d0 := decide_eq_true h0
    go_wp2_with (fail)
    go_region_held3 (fun w' => w'.cell? ⟨w3.heap.size, 0, none⟩ = some (.int .i64 cg.state) ∧ w'.cell? ⟨w3.heap.size, 1, none⟩ = some (.int .i64 cg.owner) ∧ w'.cell? ⟨w3.heap.size, 2, none⟩ = some (.int .i64 cg.value) ∧ w'.cell? ⟨w3.heap.size, 3, none⟩ = some (.slice ag3 cg.waits.length pg3)) (go_keep)
      ((go_at_call 53; refine (numD (w.heap.size + 1) (0 + 104) _ [7, 0, 99, 100] w1 _ (by exact ((A4.out.alloc _).drew)) (by omega) (by exact lit_row [7, 0, 99, 100] (by decide) rfl rfl (by first | omega | (simp only [szA, szS, szD, World.heap_drewN] at * <;> omega))) (by decide) (by simp [Value.ownBlock]; omega)).mono ?_; rintro e w5 ⟨y, rfl, hy, hd⟩; have A5 := Lib.hid (Dr.then ((A4.out.alloc _).drew) hd); have Z5 := hd.size; have N5 : w4.heap.size + 1 ≤ w5.heap.size := (by first | exact Z5 | (simp only [szA, szS, szD] at Z5; omega)); clear Z5; have Xres_5 := Lib.hid (hd.at_ (heap_drew (heap_up Xres_4.out)) (by first | omega | (simp only [szA, szS, szD, World.heap_drewN] at * <;> omega))); have Xo_5 := Lib.hid (hd.at_ (heap_drew (heap_up Xo_4.out)) (by first | omega | (simp only [szA, szS, szD, World.heap_drewN] at * <;> omega))); have Og_5 := Lib.hid (((Og_4.out.alloc _).drew).past hd.g hlt); clear hd; obtain ⟨cres5_0, cres5_1, cres5_2, cres5_3, fres5_0, fres5_1, fres5_2, fres5_3⟩ := box4 Xres_5.out; have lres5 := heap_lt Xres_5.out; obtain ⟨co5_0, co5_1, co5_2, co5_3, fo5_0, fo5_1, fo5_2, fo5_3⟩ := box4 Xo_5.out; have lo5 := heap_lt Xo_5.out; have S5 : w1.heap.size ≤ w5.heap.size := by omega))
    clear cres4_0 cres4_1 cres4_2 cres4_3 fres4_0 fres4_1 fres4_2 fres4_3 co4_0 co4_1 co4_2 co4_3 fo4_0 fo4_1 fo4_2 fo4_3
    have n3 : w5.heap.size ≠ w3.heap.size := by omega
    go_wp2_with (fail)
    refine bodyPost_ret (v := .tuple #[.agg #[.int .i64 cg.state, .int .i64 cg.owner, .int .i64 cg.value, .slice ag3 cg.waits.length pg3], .int .i64 cg.owner, .int .i64 y]) (by simp [results, Try.results25, go_sem, cres5_0, cres5_1, cres5_2, cres5_3, lres5, co5_0, co5_1, co5_2, co5_3, lo5]) rfl ⟨_, cg, _, _, rfl, ((((Og_5.out.setB (w.heap.size) 0 Xres_5.out (by decide) (.int .i64 cg.state)).setB (w.heap.size) 1 (set_at (a := ⟨w.heap.size, 0, none⟩) Xres_5.out rfl rfl (.int .i64 cg.state)) (by decide) (.int .i64 cg.owner)).setB (w.heap.size) 2 (set_at (a := ⟨w.heap.size, 1, none⟩) (set_at (a := ⟨w.heap.size, 0, none⟩) Xres_5.out rfl rfl (.int .i64 cg.state)) rfl rfl (.int .i64 cg.owner)) (by decide) (.int .i64 cg.value)).setB (w.heap.size) 3 (set_at (a := ⟨w.heap.size, 2, none⟩) (set_at (a := ⟨w.heap.size, 1, none⟩) (set_at (a := ⟨w.heap.size, 0, none⟩) Xres_5.out rfl rfl (.int .i64 cg.state)) rfl rfl (.int .i64 cg.owner)) rfl rfl (.int .i64 cg.value)) (by decide) (.slice ag3 cg.waits.length pg3)).mono (by first | omega | (simp only [szA, szS, szD, World.heap_drewN] at * <;> omega)) (by first | omega | (simp only [szA, szS, szD, World.heap_drewN] at * <;> omega)), hfg, (below_setAt (below_setAt (below_setAt (below_setAt (Dr.out B1.out A5.out (by omega)) (w.heap.size) 0 (by first | omega | (simp only [szA, szS, szD, World.heap_drewN] at * <;> omega)) (.int .i64 cg.state)) (w.heap.size) 1 (by first | omega | (simp only [szA, szS, szD, World.heap_drewN] at * <;> omega)) (.int .i64 cg.owner)) (w.heap.size) 2 (by first | omega | (simp only [szA, szS, szD, World.heap_drewN] at * <;> omega)) (.int .i64 cg.value)) (w.heap.size) 3 (by first | omega | (simp only [szA, szS, szD, World.heap_drewN] at * <;> omega)) (.slice ag3 cg.waits.length pg3))⟩
  · have d0 := decide_eq_false h0
    go_wp2_with (fail)
    go_region_held3 (fun w' => w'.cell? ⟨w3.heap.size, 0, none⟩ = some (.int .i64 cg.state) ∧ w'.cell? ⟨w3.heap.size, 1, none⟩ = some (.int .i64 cg.owner) ∧ w'.cell? ⟨w3.heap.size, 2, none⟩ = some (.int .i64 cg.value) ∧ w'.cell? ⟨w3.heap.size, 3, none⟩ = some (.slice ag3 cg.waits.length pg3)) (go_keep)
      ((go_at_call 68; refine (pickD (w.heap.size + 1) (0 + 104) 7 w1 _ (by exact (A4.out.drew)) (by omega) (by decide)).mono ?_; rintro e w5 ⟨y, rfl, hy0, hy1, hd⟩; have A5 := Lib.hid (Dr.then (A4.out.drew) hd); have Z5 := hd.size; have N5 : w4.heap.size ≤ w5.heap.size := (by first | exact Z5 | (simp only [szA, szS, szD] at Z5; omega)); clear Z5; have Xres_5 := Lib.hid (hd.at_ (heap_drew Xres_4.out) (by first | omega | (simp only [szA, szS, szD, World.heap_drewN] at * <;> omega))); have Xo_5 := Lib.hid (hd.at_ (heap_drew Xo_4.out) (by first | omega | (simp only [szA, szS, szD, World.heap_drewN] at * <;> omega))); have Og_5 := Lib.hid ((Og_4.out.drew).past hd.g hlt); clear hd; obtain ⟨cres5_0, cres5_1, cres5_2, cres5_3, fres5_0, fres5_1, fres5_2, fres5_3⟩ := box4 Xres_5.out; have lres5 := heap_lt Xres_5.out; obtain ⟨co5_0, co5_1, co5_2, co5_3, fo5_0, fo5_1, fo5_2, fo5_3⟩ := box4 Xo_5.out; have lo5 := heap_lt Xo_5.out; have S5 : w1.heap.size ≤ w5.heap.size := by omega))
    clear cres4_0 cres4_1 cres4_2 cres4_3 fres4_0 fres4_1 fres4_2 fres4_3 co4_0 co4_1 co4_2 co4_3 fo4_0 fo4_1 fo4_2 fo4_3
    have n3 : w5.heap.size ≠ w3.heap.size := by omega
    go_wp2_with (fail)
    refine bodyPost_ret (v := .tuple #[.agg #[.int .i64 cg.state, .int .i64 cg.owner, .int .i64 cg.value, .slice ag3 cg.waits.length pg3], .int .i64 y, .int .i64 7]) (by simp [results, Try.results25, go_sem, cres5_0, cres5_1, cres5_2, cres5_3, lres5, co5_0, co5_1, co5_2, co5_3, lo5]) rfl ⟨_, cg, _, _, rfl, ((((Og_5.out.setB (w.heap.size) 0 Xres_5.out (by decide) (.int .i64 cg.state)).setB (w.heap.size) 1 (set_at (a := ⟨w.heap.size, 0, none⟩) Xres_5.out rfl rfl (.int .i64 cg.state)) (by decide) (.int .i64 cg.owner)).setB (w.heap.size) 2 (set_at (a := ⟨w.heap.size, 1, none⟩) (set_at (a := ⟨w.heap.size, 0, none⟩) Xres_5.out rfl rfl (.int .i64 cg.state)) rfl rfl (.int .i64 cg.owner)) (by decide) (.int .i64 cg.value)).setB (w.heap.size) 3 (set_at (a := ⟨w.heap.size, 2, none⟩) (set_at (a := ⟨w.heap.size, 1, none⟩) (set_at (a := ⟨w.heap.size, 0, none⟩) Xres_5.out rfl rfl (.int .i64 cg.state)) rfl rfl (.int .i64 cg.owner)) rfl rfl (.int .i64 cg.value)) (by decide) (.slice ag3 cg.waits.length pg3)).mono (by first | omega | (simp only [szA, szS, szD, World.heap_drewN] at * <;> omega)) (by first | omega | (simp only [szA, szS, szD, World.heap_drewN] at * <;> omega)), hfg, (below_setAt (below_setAt (below_setAt (below_setAt (Dr.out B1.out A5.out (by omega)) (w.heap.size) 0 (by first | omega | (simp only [szA, szS, szD, World.heap_drewN] at * <;> omega)) (.int .i64 cg.state)) (w.heap.size) 1 (by first | omega | (simp only [szA, szS, szD, World.heap_drewN] at * <;> omega)) (.int .i64 cg.owner)) (w.heap.size) 2 (by first | omega | (simp only [szA, szS, szD, World.heap_drewN] at * <;> omega)) (.int .i64 cg.value)) (w.heap.size) 3 (by first | omega | (simp only [szA, szS, szD, World.heap_drewN] at * <;> omega)) (.slice ag3 cg.waits.length pg3))⟩
end Go.Proofs.Ytmmkbiljjhigfaa
