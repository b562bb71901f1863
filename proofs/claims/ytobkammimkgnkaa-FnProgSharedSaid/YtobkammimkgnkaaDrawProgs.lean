/- What is drawn for the laws on programs (made by gen_progdraw.py). -/
import Derived.Test.YtobkammimkgnkaaProgWrong
namespace Go.Proofs.Ytobkammimkgnkaa
open Go.RowKit
set_option linter.unusedSimpArgs false
set_option linter.unusedVariables false
set_option maxHeartbeats 3200000 in
theorem l6Case_calls (v : Value) (bs : List Int) (w : World) (h : Row 1 encB w v bs) (hbs : ∀ x ∈ bs, 0 ≤ x ∧ x ≤ 255) :
    Calls Try.prog 52 #[v] w fun e w' => ∃ v' c', e = .returned v' ∧ ProgOwn w.heap.size w'.heap.size w' v' c' ∧ ProgFew 20 c' ∧ Below w.heap.size w w' := by
  have H0 := Lib.hid h; have HBS := Lib.hid hbs; clear h hbs
  go_enter Try.func52, Try.ntmps52
  go_wp2_with (fail)
  refine (l13Open_calls v bs _ (Row.below H0.out (Below.alloc (Below.refl _ _) (by first | omega | (simp only [szA, szS, szD, World.heap_drewN] at * <;> omega)) _)) HBS.out).mono ?_
  rintro e w1 ⟨rfl, hr, hb⟩
  have B1 := Lib.hid (Below.trans (Below.alloc (Below.refl _ _) (by first | omega | (simp only [szA, szS, szD, World.heap_drewN] at * <;> omega)) _) (hb.mono (by first | omega | (simp only [szA, szS, szD, World.heap_drewN] at * <;> omega))) : Below w.heap.size w w1)
  have Z1 := hb.size
  have N1 : w.heap.size + 1 ≤ w1.heap.size := (by first | with_reducible exact Z1 | (simp only [szA, szS, szD] at Z1; omega))
  clear Z1
  have Xres_1 : Hid (w1.heap[w.heap.size]? = some (.cells #[.slice none 0 0, .slice none 0 0, .slice none 0 0, .slice none 0 0, .slice none 0 0] 30 (0, 0))) := below_at hb (heap_at' (n := w.heap.size) (by first | omega | (simp only [szA, szS, szD, World.heap_drewN] at * <;> omega)))
  clear hb
  obtain ⟨cres1_0, cres1_1, cres1_2, cres1_3, cres1_4, fres1_0, fres1_1, fres1_2, fres1_3, fres1_4⟩ := box5 Xres_1.out; have lres1 := heap_lt Xres_1.out
  have S1 : w.heap.size ≤ w1.heap.size := (by omega)
  simp only [szA, szD] at hr
  have A1 := Lib.hid (Dr.start hr); have hlt := hr.lt; clear hr
  have S1 : w1.heap.size ≤ w1.heap.size := Nat.le_refl _
  have SB : w.heap.size ≤ w1.heap.size := by omega
  go_wp2_with (fail)
  refine (l6Draw_calls (w.heap.size + 1) 0 w1 _ A1.out (by omega)).mono ?_
  rintro e w2 ⟨v0, c0, rfl, ho_d, hf0, hl0, hd⟩
  have A2 := Lib.hid (Dr.then A1.out hd)
  have Z2 := hd.size
  have N2 : w1.heap.size ≤ w2.heap.size := (by first | with_reducible exact Z2 | (simp only [szA, szS, szD] at Z2; omega))
  clear Z2
  have Xres_2 := Lib.hid (hd.at_ Xres_1.out (by first | omega | (simp only [szA, szS, szD, World.heap_drewN] at * <;> omega)))
  have Od_2 := Lib.hid (ho_d.mono (lo' := w1.heap.size) (by first | omega | (simp only [szA, szS, szD, World.heap_drewN] at * <;> omega)) (Nat.le_refl _)); obtain ⟨ad0, pd0, ad1, pd1, ad2, pd2, ad3, pd3, ad4, pd4, rfl, hx_d⟩ := ho_d; clear hx_d
  clear hd
  obtain ⟨cres2_0, cres2_1, cres2_2, cres2_3, cres2_4, fres2_0, fres2_1, fres2_2, fres2_3, fres2_4⟩ := box5 Xres_2.out; have lres2 := heap_lt Xres_2.out
  have S2 : w1.heap.size ≤ w2.heap.size := (by omega)
  clear cres1_0 cres1_1 cres1_2 cres1_3 cres1_4 fres1_0 fres1_1 fres1_2 fres1_3 fres1_4
  clear hl0
  have HF0 := Lib.hid hf0; clear hf0
  go_wp2_with (fail)
  refine (l6Wrong_calls (w.heap.size + 1) (0 + 100) 8 _ c0 w1 _ A2.out (by omega) (Od_2.out.row) HF0.out (by omega)).mono ?_
  rintro e w3 ⟨v1, c1, rfl, ho_e, hf1, hd⟩
  have A3 := Lib.hid (Dr.then A2.out hd)
  have Z3 := hd.size
  have N3 : w2.heap.size ≤ w3.heap.size := (by first | with_reducible exact Z3 | (simp only [szA, szS, szD] at Z3; omega))
  clear Z3
  have Xres_3 := Lib.hid (hd.at_ Xres_2.out (by first | omega | (simp only [szA, szS, szD, World.heap_drewN] at * <;> omega)))
  have Od_3 := Lib.hid (Od_2.out.past hd.g hlt)
  have Oe_3 := Lib.hid (ho_e.mono (lo' := w1.heap.size) (by first | omega | (simp only [szA, szS, szD, World.heap_drewN] at * <;> omega)) (Nat.le_refl _)); obtain ⟨ae0, pe0, ae1, pe1, ae2, pe2, ae3, pe3, ae4, pe4, rfl, hx_e⟩ := ho_e; clear hx_e
  clear hd
  obtain ⟨cres3_0, cres3_1, cres3_2, cres3_3, cres3_4, fres3_0, fres3_1, fres3_2, fres3_3, fres3_4⟩ := box5 Xres_3.out; have lres3 := heap_lt Xres_3.out
  have S3 : w1.heap.size ≤ w3.heap.size := (by omega)
  clear cres2_0 cres2_1 cres2_2 cres2_3 cres2_4 fres2_0 fres2_1 fres2_2 fres2_3 fres2_4
  have HF1 := Lib.hid hf1; clear hf1
  go_wp2_with (fail)
  refine bodyPost_ret (v := .agg #[.slice ae0 c1.sems.length pe0, .slice ae1 c1.groups.length pe1, .slice ae2 c1.barriers.length pe2, .slice ae3 c1.rooms.length pe3, .slice ae4 c1.threads.length pe4]) (by simp [results, Try.results52, go_sem, cres3_0, cres3_1, cres3_2, cres3_3, cres3_4, lres3]) rfl ⟨_, c1, rfl, (((((Oe_3.out.setB (w.heap.size) 0 Xres_3.out (by decide) (.slice ae0 c1.sems.length pe0)).setB (w.heap.size) 1 (set_at (a := ⟨w.heap.size, 0, none⟩) Xres_3.out rfl rfl (.slice ae0 c1.sems.length pe0)) (by decide) (.slice ae1 c1.groups.length pe1)).setB (w.heap.size) 2 (set_at (a := ⟨w.heap.size, 1, none⟩) (set_at (a := ⟨w.heap.size, 0, none⟩) Xres_3.out rfl rfl (.slice ae0 c1.sems.length pe0)) rfl rfl (.slice ae1 c1.groups.length pe1)) (by decide) (.slice ae2 c1.barriers.length pe2)).setB (w.heap.size) 3 (set_at (a := ⟨w.heap.size, 2, none⟩) (set_at (a := ⟨w.heap.size, 1, none⟩) (set_at (a := ⟨w.heap.size, 0, none⟩) Xres_3.out rfl rfl (.slice ae0 c1.sems.length pe0)) rfl rfl (.slice ae1 c1.groups.length pe1)) rfl rfl (.slice ae2 c1.barriers.length pe2)) (by decide) (.slice ae3 c1.rooms.length pe3)).setB (w.heap.size) 4 (set_at (a := ⟨w.heap.size, 3, none⟩) (set_at (a := ⟨w.heap.size, 2, none⟩) (set_at (a := ⟨w.heap.size, 1, none⟩) (set_at (a := ⟨w.heap.size, 0, none⟩) Xres_3.out rfl rfl (.slice ae0 c1.sems.length pe0)) rfl rfl (.slice ae1 c1.groups.length pe1)) rfl rfl (.slice ae2 c1.barriers.length pe2)) rfl rfl (.slice ae3 c1.rooms.length pe3)) (by decide) (.slice ae4 c1.threads.length pe4)).any.mono (by first | omega | (simp only [szA, szS, szD, World.heap_drewN] at * <;> omega)) (Nat.le_refl _), HF1.out.mono (by omega), (below_setAt (below_setAt (below_setAt (below_setAt (below_setAt (Dr.out B1.out A3.out (by omega)) (w.heap.size) 0 (by first | omega | (simp only [szA, szS, szD, World.heap_drewN] at * <;> omega)) (.slice ae0 c1.sems.length pe0)) (w.heap.size) 1 (by first | omega | (simp only [szA, szS, szD, World.heap_drewN] at * <;> omega)) (.slice ae1 c1.groups.length pe1)) (w.heap.size) 2 (by first | omega | (simp only [szA, szS, szD, World.heap_drewN] at * <;> omega)) (.slice ae2 c1.barriers.length pe2)) (w.heap.size) 3 (by first | omega | (simp only [szA, szS, szD, World.heap_drewN] at * <;> omega)) (.slice ae3 c1.rooms.length pe3)) (w.heap.size) 4 (by first | omega | (simp only [szA, szS, szD, World.heap_drewN] at * <;> omega)) (.slice ae4 c1.threads.length pe4))⟩
set_option maxHeartbeats 3200000 in
theorem DrawSizeOf_calls (v : Value) (bs : List Int) (w : World) (h : Row 1 encB w v bs) (hbs : ∀ x ∈ bs, 0 ≤ x ∧ x ≤ 255) :
    Calls Try.prog 26 #[v] w fun e w' => ∃ v' c', e = .returned v' ∧ ProgOwn w.heap.size w'.heap.size w' v' c' ∧ ProgFew 20 c' ∧ Below w.heap.size w w' := by
  have H0 := Lib.hid h; have HBS := Lib.hid hbs; clear h hbs
  go_enter Try.func26, Try.ntmps26
  go_wp2_with (fail)
  refine (l6Case_calls v bs _ (Row.below H0.out (Below.alloc (Below.refl _ _) (by first | omega | (simp only [szA, szS, szD, World.heap_drewN] at * <;> omega)) _)) HBS.out).mono ?_
  rintro e w1 ⟨vg, c, rfl, ho_g, hf, hb⟩
  have B1 := Lib.hid (Below.trans (Below.alloc (Below.refl _ _) (by first | omega | (simp only [szA, szS, szD, World.heap_drewN] at * <;> omega)) _) (hb.mono (by first | omega | (simp only [szA, szS, szD, World.heap_drewN] at * <;> omega))) : Below w.heap.size w w1)
  have Z1 := hb.size
  have N1 : w.heap.size + 1 ≤ w1.heap.size := (by first | with_reducible exact Z1 | (simp only [szA, szS, szD] at Z1; omega))
  clear Z1
  have Xres_1 : Hid (w1.heap[w.heap.size]? = some (.cells #[.slice none 0 0, .slice none 0 0, .slice none 0 0, .slice none 0 0, .slice none 0 0] 30 (0, 0))) := below_at hb (heap_at' (n := w.heap.size) (by first | omega | (simp only [szA, szS, szD, World.heap_drewN] at * <;> omega)))
  have Og_1 := Lib.hid (ho_g.mono (lo' := w.heap.size) (by first | omega | (simp only [szA, szS, szD, World.heap_drewN] at * <;> omega)) (Nat.le_refl _)); obtain ⟨ag0, pg0, ag1, pg1, ag2, pg2, ag3, pg3, ag4, pg4, rfl, hx_g⟩ := ho_g; clear hx_g
  clear hb
  obtain ⟨cres1_0, cres1_1, cres1_2, cres1_3, cres1_4, fres1_0, fres1_1, fres1_2, fres1_3, fres1_4⟩ := box5 Xres_1.out; have lres1 := heap_lt Xres_1.out
  have S1 : w.heap.size ≤ w1.heap.size := (by omega)
  have HF := Lib.hid hf; clear hf
  go_wp2_with (fail)
  refine bodyPost_ret (v := .agg #[.slice ag0 c.sems.length pg0, .slice ag1 c.groups.length pg1, .slice ag2 c.barriers.length pg2, .slice ag3 c.rooms.length pg3, .slice ag4 c.threads.length pg4]) (by simp [results, Try.results26, go_sem, cres1_0, cres1_1, cres1_2, cres1_3, cres1_4, lres1]) rfl ⟨_, c, rfl, (((((Og_1.out.setB (w.heap.size) 0 Xres_1.out (by decide) (.slice ag0 c.sems.length pg0)).setB (w.heap.size) 1 (set_at (a := ⟨w.heap.size, 0, none⟩) Xres_1.out rfl rfl (.slice ag0 c.sems.length pg0)) (by decide) (.slice ag1 c.groups.length pg1)).setB (w.heap.size) 2 (set_at (a := ⟨w.heap.size, 1, none⟩) (set_at (a := ⟨w.heap.size, 0, none⟩) Xres_1.out rfl rfl (.slice ag0 c.sems.length pg0)) rfl rfl (.slice ag1 c.groups.length pg1)) (by decide) (.slice ag2 c.barriers.length pg2)).setB (w.heap.size) 3 (set_at (a := ⟨w.heap.size, 2, none⟩) (set_at (a := ⟨w.heap.size, 1, none⟩) (set_at (a := ⟨w.heap.size, 0, none⟩) Xres_1.out rfl rfl (.slice ag0 c.sems.length pg0)) rfl rfl (.slice ag1 c.groups.length pg1)) rfl rfl (.slice ag2 c.barriers.length pg2)) (by decide) (.slice ag3 c.rooms.length pg3)).setB (w.heap.size) 4 (set_at (a := ⟨w.heap.size, 3, none⟩) (set_at (a := ⟨w.heap.size, 2, none⟩) (set_at (a := ⟨w.heap.size, 1, none⟩) (set_at (a := ⟨w.heap.size, 0, none⟩) Xres_1.out rfl rfl (.slice ag0 c.sems.length pg0)) rfl rfl (.slice ag1 c.groups.length pg1)) rfl rfl (.slice ag2 c.barriers.length pg2)) rfl rfl (.slice ag3 c.rooms.length pg3)) (by decide) (.slice ag4 c.threads.length pg4)).any.mono (by first | omega | (simp only [szA, szS, szD, World.heap_drewN] at * <;> omega)) (Nat.le_refl _), HF.out, (below_setAt (below_setAt (below_setAt (below_setAt (below_setAt B1.out (w.heap.size) 0 (by first | omega | (simp only [szA, szS, szD, World.heap_drewN] at * <;> omega)) (.slice ag0 c.sems.length pg0)) (w.heap.size) 1 (by first | omega | (simp only [szA, szS, szD, World.heap_drewN] at * <;> omega)) (.slice ag1 c.groups.length pg1)) (w.heap.size) 2 (by first | omega | (simp only [szA, szS, szD, World.heap_drewN] at * <;> omega)) (.slice ag2 c.barriers.length pg2)) (w.heap.size) 3 (by first | omega | (simp only [szA, szS, szD, World.heap_drewN] at * <;> omega)) (.slice ag3 c.rooms.length pg3)) (w.heap.size) 4 (by first | omega | (simp only [szA, szS, szD, World.heap_drewN] at * <;> omega)) (.slice ag4 c.threads.length pg4))⟩
set_option maxHeartbeats 3200000 in
theorem DrawProgValid_calls (v : Value) (bs : List Int) (w : World) (h : Row 1 encB w v bs) (hbs : ∀ x ∈ bs, 0 ≤ x ∧ x ≤ 255) :
    Calls Try.prog 25 #[v] w fun e w' => ∃ v' c', e = .returned v' ∧ ProgOwn w.heap.size w'.heap.size w' v' c' ∧ ProgFew 20 c' ∧ Below w.heap.size w w' := by
  have H0 := Lib.hid h; have HBS := Lib.hid hbs; clear h hbs
  go_enter Try.func25, Try.ntmps25
  go_wp2_with (fail)
  refine (l13Open_calls v bs _ (Row.below H0.out (Below.alloc (Below.refl _ _) (by first | omega | (simp only [szA, szS, szD, World.heap_drewN] at * <;> omega)) _)) HBS.out).mono ?_
  rintro e w1 ⟨rfl, hr, hb⟩
  have B1 := Lib.hid (Below.trans (Below.alloc (Below.refl _ _) (by first | omega | (simp only [szA, szS, szD, World.heap_drewN] at * <;> omega)) _) (hb.mono (by first | omega | (simp only [szA, szS, szD, World.heap_drewN] at * <;> omega))) : Below w.heap.size w w1)
  have Z1 := hb.size
  have N1 : w.heap.size + 1 ≤ w1.heap.size := (by first | with_reducible exact Z1 | (simp only [szA, szS, szD] at Z1; omega))
  clear Z1
  have Xres_1 : Hid (w1.heap[w.heap.size]? = some (.cells #[.slice none 0 0, .slice none 0 0, .slice none 0 0, .slice none 0 0, .slice none 0 0] 30 (0, 0))) := below_at hb (heap_at' (n := w.heap.size) (by first | omega | (simp only [szA, szS, szD, World.heap_drewN] at * <;> omega)))
  clear hb
  obtain ⟨cres1_0, cres1_1, cres1_2, cres1_3, cres1_4, fres1_0, fres1_1, fres1_2, fres1_3, fres1_4⟩ := box5 Xres_1.out; have lres1 := heap_lt Xres_1.out
  have S1 : w.heap.size ≤ w1.heap.size := (by omega)
  simp only [szA, szD] at hr
  have A1 := Lib.hid (Dr.start hr); have hlt := hr.lt; clear hr
  have S1 : w1.heap.size ≤ w1.heap.size := Nat.le_refl _
  have SB : w.heap.size ≤ w1.heap.size := by omega
  go_wp2_with (fail)
  refine (l6Draw_calls (w.heap.size + 1) 0 w1 _ A1.out (by omega)).mono ?_
  rintro e w2 ⟨v0, c0, rfl, ho_d, hf0, hl0, hd⟩
  have A2 := Lib.hid (Dr.then A1.out hd)
  have Z2 := hd.size
  have N2 : w1.heap.size ≤ w2.heap.size := (by first | with_reducible exact Z2 | (simp only [szA, szS, szD] at Z2; omega))
  clear Z2
  have Xres_2 := Lib.hid (hd.at_ Xres_1.out (by first | omega | (simp only [szA, szS, szD, World.heap_drewN] at * <;> omega)))
  have Od_2 := Lib.hid (ho_d.mono (lo' := w1.heap.size) (by first | omega | (simp only [szA, szS, szD, World.heap_drewN] at * <;> omega)) (Nat.le_refl _)); obtain ⟨ad0, pd0, ad1, pd1, ad2, pd2, ad3, pd3, ad4, pd4, rfl, hx_d⟩ := ho_d; clear hx_d
  clear hd
  obtain ⟨cres2_0, cres2_1, cres2_2, cres2_3, cres2_4, fres2_0, fres2_1, fres2_2, fres2_3, fres2_4⟩ := box5 Xres_2.out; have lres2 := heap_lt Xres_2.out
  have S2 : w1.heap.size ≤ w2.heap.size := (by omega)
  clear cres1_0 cres1_1 cres1_2 cres1_3 cres1_4 fres1_0 fres1_1 fres1_2 fres1_3 fres1_4
  clear hl0
  have HF0 := Lib.hid hf0; clear hf0
  go_wp2_with (fail)
  refine (l6Wrong_calls (w.heap.size + 1) (0 + 100) 8 _ c0 w1 _ A2.out (by omega) (Od_2.out.row) HF0.out (by omega)).mono ?_
  rintro e w3 ⟨v1, c1, rfl, ho_e, hf1, hd⟩
  have A3 := Lib.hid (Dr.then A2.out hd)
  have Z3 := hd.size
  have N3 : w2.heap.size ≤ w3.heap.size := (by first | with_reducible exact Z3 | (simp only [szA, szS, szD] at Z3; omega))
  clear Z3
  have Xres_3 := Lib.hid (hd.at_ Xres_2.out (by first | omega | (simp only [szA, szS, szD, World.heap_drewN] at * <;> omega)))
  have Od_3 := Lib.hid (Od_2.out.past hd.g hlt)
  have Oe_3 := Lib.hid (ho_e.mono (lo' := w1.heap.size) (by first | omega | (simp only [szA, szS, szD, World.heap_drewN] at * <;> omega)) (Nat.le_refl _)); obtain ⟨ae0, pe0, ae1, pe1, ae2, pe2, ae3, pe3, ae4, pe4, rfl, hx_e⟩ := ho_e; clear hx_e
  clear hd
  obtain ⟨cres3_0, cres3_1, cres3_2, cres3_3, cres3_4, fres3_0, fres3_1, fres3_2, fres3_3, fres3_4⟩ := box5 Xres_3.out; have lres3 := heap_lt Xres_3.out
  have S3 : w1.heap.size ≤ w3.heap.size := (by omega)
  clear cres2_0 cres2_1 cres2_2 cres2_3 cres2_4 fres2_0 fres2_1 fres2_2 fres2_3 fres2_4
  have HF1 := Lib.hid hf1; clear hf1
  go_wp2_with (fail)
  refine (l6Wrong_calls (w.heap.size + 1) (0 + 120) 9 _ c1 w1 _ A3.out (by omega) (Oe_3.out.row) HF1.out (by omega)).mono ?_
  rintro e w4 ⟨v2, c2, rfl, ho_f, hf2, hd⟩
  have A4 := Lib.hid (Dr.then A3.out hd)
  have Z4 := hd.size
  have N4 : w3.heap.size ≤ w4.heap.size := (by first | with_reducible exact Z4 | (simp only [szA, szS, szD] at Z4; omega))
  clear Z4
  have Xres_4 := Lib.hid (hd.at_ Xres_3.out (by first | omega | (simp only [szA, szS, szD, World.heap_drewN] at * <;> omega)))
  have Oe_4 := Lib.hid (Oe_3.out.past hd.g hlt)
  have Of_4 := Lib.hid (ho_f.mono (lo' := w1.heap.size) (by first | omega | (simp only [szA, szS, szD, World.heap_drewN] at * <;> omega)) (Nat.le_refl _)); obtain ⟨af0, pf0, af1, pf1, af2, pf2, af3, pf3, af4, pf4, rfl, hx_f⟩ := ho_f; clear hx_f
  clear hd
  obtain ⟨cres4_0, cres4_1, cres4_2, cres4_3, cres4_4, fres4_0, fres4_1, fres4_2, fres4_3, fres4_4⟩ := box5 Xres_4.out; have lres4 := heap_lt Xres_4.out
  have S4 : w1.heap.size ≤ w4.heap.size := (by omega)
  clear cres3_0 cres3_1 cres3_2 cres3_3 cres3_4 fres3_0 fres3_1 fres3_2 fres3_3 fres3_4
  have HF2 := Lib.hid hf2; clear hf2
  go_wp2_with (fail)
  refine (l6Wrong_calls (w.heap.size + 1) (0 + 140) 10 _ c2 w1 _ A4.out (by omega) (Of_4.out.row) HF2.out (by omega)).mono ?_
  rintro e w5 ⟨v3, c3, rfl, ho_g, hf3, hd⟩
  have A5 := Lib.hid (Dr.then A4.out hd)
  have Z5 := hd.size
  have N5 : w4.heap.size ≤ w5.heap.size := (by first | with_reducible exact Z5 | (simp only [szA, szS, szD] at Z5; omega))
  clear Z5
  have Xres_5 := Lib.hid (hd.at_ Xres_4.out (by first | omega | (simp only [szA, szS, szD, World.heap_drewN] at * <;> omega)))
  have Of_5 := Lib.hid (Of_4.out.past hd.g hlt)
  have Og_5 := Lib.hid (ho_g.mono (lo' := w1.heap.size) (by first | omega | (simp only [szA, szS, szD, World.heap_drewN] at * <;> omega)) (Nat.le_refl _)); obtain ⟨ag0, pg0, ag1, pg1, ag2, pg2, ag3, pg3, ag4, pg4, rfl, hx_g⟩ := ho_g; clear hx_g
  clear hd
  obtain ⟨cres5_0, cres5_1, cres5_2, cres5_3, cres5_4, fres5_0, fres5_1, fres5_2, fres5_3, fres5_4⟩ := box5 Xres_5.out; have lres5 := heap_lt Xres_5.out
  have S5 : w1.heap.size ≤ w5.heap.size := (by omega)
  clear cres4_0 cres4_1 cres4_2 cres4_3 cres4_4 fres4_0 fres4_1 fres4_2 fres4_3 fres4_4
  have HF3 := Lib.hid hf3; clear hf3
  go_wp2_with (fail)
  refine bodyPost_ret (v := .agg #[.slice ag0 c3.sems.length pg0, .slice ag1 c3.groups.length pg1, .slice ag2 c3.barriers.length pg2, .slice ag3 c3.rooms.length pg3, .slice ag4 c3.threads.length pg4]) (by simp [results, Try.results25, go_sem, cres5_0, cres5_1, cres5_2, cres5_3, cres5_4, lres5]) rfl ⟨_, c3, rfl, (((((Og_5.out.setB (w.heap.size) 0 Xres_5.out (by decide) (.slice ag0 c3.sems.length pg0)).setB (w.heap.size) 1 (set_at (a := ⟨w.heap.size, 0, none⟩) Xres_5.out rfl rfl (.slice ag0 c3.sems.length pg0)) (by decide) (.slice ag1 c3.groups.length pg1)).setB (w.heap.size) 2 (set_at (a := ⟨w.heap.size, 1, none⟩) (set_at (a := ⟨w.heap.size, 0, none⟩) Xres_5.out rfl rfl (.slice ag0 c3.sems.length pg0)) rfl rfl (.slice ag1 c3.groups.length pg1)) (by decide) (.slice ag2 c3.barriers.length pg2)).setB (w.heap.size) 3 (set_at (a := ⟨w.heap.size, 2, none⟩) (set_at (a := ⟨w.heap.size, 1, none⟩) (set_at (a := ⟨w.heap.size, 0, none⟩) Xres_5.out rfl rfl (.slice ag0 c3.sems.length pg0)) rfl rfl (.slice ag1 c3.groups.length pg1)) rfl rfl (.slice ag2 c3.barriers.length pg2)) (by decide) (.slice ag3 c3.rooms.length pg3)).setB (w.heap.size) 4 (set_at (a := ⟨w.heap.size, 3, none⟩) (set_at (a := ⟨w.heap.size, 2, none⟩) (set_at (a := ⟨w.heap.size, 1, none⟩) (set_at (a := ⟨w.heap.size, 0, none⟩) Xres_5.out rfl rfl (.slice ag0 c3.sems.length pg0)) rfl rfl (.slice ag1 c3.groups.length pg1)) rfl rfl (.slice ag2 c3.barriers.length pg2)) rfl rfl (.slice ag3 c3.rooms.length pg3)) (by decide) (.slice ag4 c3.threads.length pg4)).any.mono (by first | omega | (simp only [szA, szS, szD, World.heap_drewN] at * <;> omega)) (Nat.le_refl _), HF3.out.mono (by omega), (below_setAt (below_setAt (below_setAt (below_setAt (below_setAt (Dr.out B1.out A5.out (by omega)) (w.heap.size) 0 (by first | omega | (simp only [szA, szS, szD, World.heap_drewN] at * <;> omega)) (.slice ag0 c3.sems.length pg0)) (w.heap.size) 1 (by first | omega | (simp only [szA, szS, szD, World.heap_drewN] at * <;> omega)) (.slice ag1 c3.groups.length pg1)) (w.heap.size) 2 (by first | omega | (simp only [szA, szS, szD, World.heap_drewN] at * <;> omega)) (.slice ag2 c3.barriers.length pg2)) (w.heap.size) 3 (by first | omega | (simp only [szA, szS, szD, World.heap_drewN] at * <;> omega)) (.slice ag3 c3.rooms.length pg3)) (w.heap.size) 4 (by first | omega | (simp only [szA, szS, szD, World.heap_drewN] at * <;> omega)) (.slice ag4 c3.threads.length pg4))⟩
end Go.Proofs.Ytobkammimkgnkaa
