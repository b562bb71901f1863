/- What is drawn for the laws on locks (made by gen_lockdraws.py). -/
import Derived.Test.YtbnfhnfnbhigoaaDoorDrawLock1
import Derived.Test.YtbnfhnfnbhigoaaDoorDWLock
import Derived.Test.YtbnfhnfnbhigoaaDoorDrawsOut
import Derived.Deep.RegionLaw
namespace Go.Proofs.YtbnfhnfnbhigoaaDoor
open Go.RowKit
set_option linter.unusedSimpArgs false
set_option linter.unusedVariables false
theorem LockRow.parts {w : World} {v0 x1 v2 : Value} {c : LockD} (h : LockRow w (.agg #[v0, x1, v2]) c) : Row 1 encI w v0 c.readers ∧ Row 2 encW w v2 c.q := by
  obtain ⟨a0, p0, a2, p2, e, r0, r2⟩ := h
  simp only [Value.agg.injEq] at e
  simp at e
  obtain ⟨rfl, rfl, rfl⟩ := e
  exact ⟨r0, r2⟩
set_option maxHeartbeats 6400000 in
theorem l4Case_calls (v : Value) (bs : List Int) (w : World) (h : Row 1 encB w v bs) (hbs : ∀ x ∈ bs, 0 ≤ x ∧ x ≤ 255) :
    Calls Tryd.prog 37 #[v] w fun e w' => ∃ v' c' y, e = .returned (.tuple #[v', .int .i64 y]) ∧ LockOwn w.heap.size w'.heap.size w' v' c' ∧ LockFew 14 c' ∧ Below w.heap.size w w' := by
  have H0 := Lib.hid h; have HBS := Lib.hid hbs; clear h hbs
  go_enter Tryd.func37, Tryd.ntmps37
  go_wp2_with (fail)
  refine (l13Open_calls v bs _ (Row.below H0.out (Below.alloc (Below.refl _ _) (by first | omega | (simp only [szA, szS, szD, World.heap_drewN] at * <;> omega)) _)) HBS.out).mono ?_
  rintro e w1 ⟨rfl, hr, hb⟩
  have B1 := Lib.hid (Below.trans (Below.alloc (Below.refl _ _) (by first | omega | (simp only [szA, szS, szD, World.heap_drewN] at * <;> omega)) _) (hb.mono (by first | omega | (simp only [szA, szS, szD, World.heap_drewN] at * <;> omega))) : Below w.heap.size w w1)
  have Z1 := hb.size
  have N1 : w.heap.size + 1 ≤ w1.heap.size := (by first | with_reducible exact Z1 | (simp only [szA, szS, szD] at Z1; omega))
  clear Z1
  have Xres_1 : Hid (w1.heap[w.heap.size]? = some (.cells #[.slice none 0 0, .int .i64 0, .slice none 0 0] 30 (0, 0))) := below_at hb (heap_at' (n := w.heap.size) (by first | omega | (simp only [szA, szS, szD, World.heap_drewN] at * <;> omega)))
  clear hb
  obtain ⟨cres1_0, cres1_1, cres1_2, fres1_0, fres1_1, fres1_2⟩ := box3 Xres_1.out; have lres1 := heap_lt Xres_1.out
  have S1 : w.heap.size ≤ w1.heap.size := (by omega)
  simp only [szA, szD] at hr
  have A1 := Lib.hid (Dr.start hr); have hlt := hr.lt; clear hr
  have S1 : w1.heap.size ≤ w1.heap.size := Nat.le_refl _
  have SB : w.heap.size ≤ w1.heap.size := by omega
  go_wp2_with (fail)
  refine (l4Draw_calls (w.heap.size + 1) 0 w1 _ A1.out (by omega)).mono ?_
  rintro e w2 ⟨vd, cd, rfl, ho_d, hfd, hd⟩
  have A2 := Lib.hid (Dr.then A1.out hd)
  have Z2 := hd.size
  have N2 : w1.heap.size ≤ w2.heap.size := (by first | with_reducible exact Z2 | (simp only [szA, szS, szD] at Z2; omega))
  clear Z2
  have Xres_2 := Lib.hid (hd.at_ Xres_1.out (by first | omega | (simp only [szA, szS, szD, World.heap_drewN] at * <;> omega)))
  have Od_2 := Lib.hid (ho_d.mono (lo' := w1.heap.size) (by first | omega | (simp only [szA, szS, szD, World.heap_drewN] at * <;> omega)) (Nat.le_refl _)); obtain ⟨ad0, pd0, ad2, pd2, rfl, hx_d⟩ := ho_d; clear hx_d
  clear hd
  obtain ⟨cres2_0, cres2_1, cres2_2, fres2_0, fres2_1, fres2_2⟩ := box3 Xres_2.out; have lres2 := heap_lt Xres_2.out
  have S2 : w1.heap.size ≤ w2.heap.size := (by omega)
  clear cres1_0 cres1_1 cres1_2 fres1_0 fres1_1 fres1_2
  go_wp2_with (fail)
  refine (numD (w.heap.size + 1) (0 + 100) _ [0, 1, 2, 3, 4, 5, 6] w1 _ ((A2.out.alloc _).alloc _) (by omega) (lit_row _ (by decide) rfl rfl (by first | omega | (simp only [szA, szS, szD, World.heap_drewN] at * <;> omega))) (by decide) (by simp [Value.ownBlock]; omega)).mono ?_
  rintro e w3 ⟨y0, rfl, hy0, hd⟩
  have A3 := Lib.hid (Dr.then ((A2.out.alloc _).alloc _) hd)
  have Z3 := hd.size
  have N3 : w2.heap.size + 2 ≤ w3.heap.size := (by first | with_reducible exact Z3 | (simp only [szA, szS, szD] at Z3; omega))
  clear Z3
  have Xres_3 := Lib.hid (hd.at_ (heap_up (heap_up Xres_2.out)) (by first | omega | (simp only [szA, szS, szD, World.heap_drewN] at * <;> omega)))
  have Xs_3 : Hid (w3.heap[w2.heap.size]? = some (.cells #[.slice ad0 cd.readers.length pd0, .int .i64 cd.writer, .slice ad2 cd.q.length pd2] 30 (0, 0))) := hd.at_ (heap_up (heap_at' (n := w2.heap.size) (by first | omega | (simp only [szA, szS, szD, World.heap_drewN] at * <;> omega)))) (by first | omega | (simp only [szA, szS, szD, World.heap_drewN] at * <;> omega))
  have Od_3 := Lib.hid (((Od_2.out.alloc _).alloc _).past hd.g hlt)
  clear hd
  obtain ⟨cres3_0, cres3_1, cres3_2, fres3_0, fres3_1, fres3_2⟩ := box3 Xres_3.out; have lres3 := heap_lt Xres_3.out
  obtain ⟨cs3_0, cs3_1, cs3_2, fs3_0, fs3_1, fs3_2⟩ := box3 Xs_3.out; have ls3 := heap_lt Xs_3.out
  have S3 : w1.heap.size ≤ w3.heap.size := (by omega)
  clear cres2_0 cres2_1 cres2_2 fres2_0 fres2_1 fres2_2
  have hy0b : 0 ≤ y0 ∧ y0 ≤ 6 := by simp at hy0; omega
  obtain ⟨hy00, hy01⟩ := hy0b; clear hy0
  have hrl : cd.readers.length ≤ 13 := hfd.1
  have HFD := Lib.hid hfd; clear hfd
  have nn : w2.heap.size ≠ w.heap.size := by omega
  have nn2 := nn.symm
  by_cases hw : 0 ≤ cd.writer
  · have d4 := decide_eq_true hw
    go_wp2_with (fail)
    refine (pickD (w.heap.size + 1) (0 + 101) 2 w1 _ A3.out (by omega) (by decide)).mono ?_
    rintro e w4 ⟨x1, rfl, hx10, hx11, hd⟩
    have A4 := Lib.hid (Dr.then A3.out hd)
    have Z4 := hd.size
    have N4 : w3.heap.size ≤ w4.heap.size := (by first | with_reducible exact Z4 | (simp only [szA, szS, szD] at Z4; omega))
    clear Z4
    have Xres_4 := Lib.hid (hd.at_ Xres_3.out (by first | omega | (simp only [szA, szS, szD, World.heap_drewN] at * <;> omega)))
    have Xs_4 := Lib.hid (hd.at_ Xs_3.out (by first | omega | (simp only [szA, szS, szD, World.heap_drewN] at * <;> omega)))
    have Od_4 := Lib.hid (Od_3.out.past hd.g hlt)
    clear hd
    obtain ⟨cres4_0, cres4_1, cres4_2, fres4_0, fres4_1, fres4_2⟩ := box3 Xres_4.out; have lres4 := heap_lt Xres_4.out
    obtain ⟨cs4_0, cs4_1, cs4_2, fs4_0, fs4_1, fs4_2⟩ := box3 Xs_4.out; have ls4 := heap_lt Xs_4.out
    have S4 : w1.heap.size ≤ w4.heap.size := (by omega)
    clear cres3_0 cres3_1 cres3_2 fres3_0 fres3_1 fres3_2 cs3_0 cs3_1 cs3_2 fs3_0 fs3_1 fs3_2
    by_cases hx1 : x1 = 0
    · subst hx1
      by_cases hr : 0 < cd.readers.length
      · have d5 := len_ne hr
        have d6 : decide ((0 : Int) < (cd.readers.length : Int)) = true := decide_eq_true (by omega)
        go_wp2_with (fail)
        refine (pickD (w.heap.size + 1) (0 + 102) 2 w1 _ A4.out (by omega) (by decide)).mono ?_
        rintro e w5 ⟨x2, rfl, hx20, hx21, hd⟩
        have A5 := Lib.hid (Dr.then A4.out hd)
        have Z5 := hd.size
        have N5 : w4.heap.size ≤ w5.heap.size := (by first | with_reducible exact Z5 | (simp only [szA, szS, szD] at Z5; omega))
        clear Z5
        have Xres_5 := Lib.hid (hd.at_ Xres_4.out (by first | omega | (simp only [szA, szS, szD, World.heap_drewN] at * <;> omega)))
        have Xs_5 := Lib.hid (hd.at_ Xs_4.out (by first | omega | (simp only [szA, szS, szD, World.heap_drewN] at * <;> omega)))
        have Od_5 := Lib.hid (Od_4.out.past hd.g hlt)
        clear hd
        obtain ⟨cres5_0, cres5_1, cres5_2, fres5_0, fres5_1, fres5_2⟩ := box3 Xres_5.out; have lres5 := heap_lt Xres_5.out
        obtain ⟨cs5_0, cs5_1, cs5_2, fs5_0, fs5_1, fs5_2⟩ := box3 Xs_5.out; have ls5 := heap_lt Xs_5.out
        have S5 : w1.heap.size ≤ w5.heap.size := (by omega)
        clear cres4_0 cres4_1 cres4_2 fres4_0 fres4_1 fres4_2 cs4_0 cs4_1 cs4_2 fs4_0 fs4_1 fs4_2
        by_cases hx2 : x2 = 0
        · subst hx2
          go_wp2_with (fail)
          go_region_law ((refine step_fn rfl 32 #[.pointer (some ⟨w.heap.size + 1, 0, none⟩), .int .i64 (cd.readers.length : Int)] (by simp [execOp, resolve, invoke, Act.eval, Act.put, go_sem]) ((pickD (w.heap.size + 1) (0 + 103) (cd.readers.length : Int) w1 _ (by exact (A5.out.drew)) (by omega) (by omega)).mono ?_); rintro e w6 ⟨y, rfl, hya, hyb, hd⟩; refine ⟨_, rfl, ?_⟩; have A6 := Lib.hid (Dr.then (A5.out.drew) hd); have Z6 := hd.size; have N6 : w5.heap.size ≤ w6.heap.size := (by first | with_reducible exact Z6 | (simp only [szA, szS, szD] at Z6; omega)); clear Z6; have Xres_6 := Lib.hid (hd.at_ (heap_drew Xres_5.out) (by first | omega | (simp only [szA, szS, szD, World.heap_drewN] at * <;> omega))); have Xs_6 := Lib.hid (hd.at_ (heap_drew Xs_5.out) (by first | omega | (simp only [szA, szS, szD, World.heap_drewN] at * <;> omega))); have Od_6 := Lib.hid ((Od_5.out.drew).past hd.g hlt); clear hd; obtain ⟨cres6_0, cres6_1, cres6_2, fres6_0, fres6_1, fres6_2⟩ := box3 Xres_6.out; have lres6 := heap_lt Xres_6.out; obtain ⟨cs6_0, cs6_1, cs6_2, fs6_0, fs6_1, fs6_2⟩ := box3 Xs_6.out; have ls6 := heap_lt Xs_6.out; have S6 : w1.heap.size ≤ w6.heap.size := (by omega); obtain ⟨k, rfl⟩ := Int.eq_ofNat_of_zero_le hya; have hkl : k < cd.readers.length := (by omega); have j1 : (k : Int) < (cd.readers.length : Int) := (by omega); have j0 : (0 : Int) ≤ (k : Int) := (by omega); obtain ⟨z, hz⟩ := get_ex hkl; obtain ⟨_, _, ee, _, _, rr⟩ := IRow.look (LockRow.parts (Od_6.out.row)).1; injection ee with e1 _ e2; subst e1 e2; obtain ⟨bb, off, rfl, hblt, hc⟩ := rr (by omega); have c1 := hc k z hz; clear hc hz rr))
          clear cres5_0 cres5_1 cres5_2 fres5_0 fres5_1 fres5_2 cs5_0 cs5_1 cs5_2 fs5_0 fs5_1 fs5_2
          all_goals
            go_wp2_with (fail)
            refine (l4Wrong_calls (w.heap.size + 1) (0 + 104) 13 _ cd w1 _ A6.out (by omega) (Od_6.out.row) HFD.out (by omega)).mono ?_
            rintro e w7 ⟨vg, cg, rfl, ho_g, hfg, hd⟩
            have A7 := Lib.hid (Dr.then A6.out hd)
            have Z7 := hd.size
            have N7 : w6.heap.size ≤ w7.heap.size := (by first | with_reducible exact Z7 | (simp only [szA, szS, szD] at Z7; omega))
            clear Z7
            have Xres_7 := Lib.hid (hd.at_ Xres_6.out (by first | omega | (simp only [szA, szS, szD, World.heap_drewN] at * <;> omega)))
            have Xs_7 := Lib.hid (hd.at_ Xs_6.out (by first | omega | (simp only [szA, szS, szD, World.heap_drewN] at * <;> omega)))
            have Od_7 := Lib.hid (Od_6.out.past hd.g hlt)
            have Og_7 := Lib.hid (ho_g.mono (lo' := w1.heap.size) (by first | omega | (simp only [szA, szS, szD, World.heap_drewN] at * <;> omega)) (Nat.le_refl _)); obtain ⟨ag0, pg0, ag2, pg2, rfl, hx_g⟩ := ho_g; clear hx_g
            clear hd
            obtain ⟨cres7_0, cres7_1, cres7_2, fres7_0, fres7_1, fres7_2⟩ := box3 Xres_7.out; have lres7 := heap_lt Xres_7.out
            obtain ⟨cs7_0, cs7_1, cs7_2, fs7_0, fs7_1, fs7_2⟩ := box3 Xs_7.out; have ls7 := heap_lt Xs_7.out
            have S7 : w1.heap.size ≤ w7.heap.size := (by omega)
            clear cres6_0 cres6_1 cres6_2 fres6_0 fres6_1 fres6_2 cs6_0 cs6_1 cs6_2 fs6_0 fs6_1 fs6_2
            go_wp2_with (fail)
            refine bodyPost_ret (v := .tuple #[.agg #[.slice ag0 cg.readers.length pg0, .int .i64 cg.writer, .slice ag2 cg.q.length pg2], .int .i64 z]) (by simp [results, Tryd.results37, go_sem, cres7_0, cres7_1, cres7_2, lres7]) rfl ⟨_, cg, _, rfl, (((Og_7.out.setB (w.heap.size) 0 Xres_7.out (by decide) (.slice ag0 cg.readers.length pg0)).setB (w.heap.size) 1 (set_at (a := ⟨w.heap.size, 0, none⟩) Xres_7.out rfl rfl (.slice ag0 cg.readers.length pg0)) (by decide) (.int .i64 cg.writer)).setB (w.heap.size) 2 (set_at (a := ⟨w.heap.size, 1, none⟩) (set_at (a := ⟨w.heap.size, 0, none⟩) Xres_7.out rfl rfl (.slice ag0 cg.readers.length pg0)) rfl rfl (.int .i64 cg.writer)) (by decide) (.slice ag2 cg.q.length pg2)).mono (by first | omega | (simp only [szA, szS, szD, World.heap_drewN] at * <;> omega)) (by first | omega | (simp only [szA, szS, szD, World.heap_drewN] at * <;> omega)), hfg, (below_setAt (below_setAt (below_setAt (Dr.out B1.out A7.out (by omega)) (w.heap.size) 0 (by first | omega | (simp only [szA, szS, szD, World.heap_drewN] at * <;> omega)) (.slice ag0 cg.readers.length pg0)) (w.heap.size) 1 (by first | omega | (simp only [szA, szS, szD, World.heap_drewN] at * <;> omega)) (.int .i64 cg.writer)) (w.heap.size) 2 (by first | omega | (simp only [szA, szS, szD, World.heap_drewN] at * <;> omega)) (.slice ag2 cg.q.length pg2))⟩
        · have e_x2 : (x2 == 0) = false := beq_false_of_ne hx2
          have f_x2 := decide_eq_false hx2
          go_wp2_with (fail)
          refine (l4Wrong_calls (w.heap.size + 1) (0 + 103) 13 _ cd w1 _ A5.out (by omega) (Od_5.out.row) HFD.out (by omega)).mono ?_
          rintro e w6 ⟨vg, cg, rfl, ho_g, hfg, hd⟩
          have A6 := Lib.hid (Dr.then A5.out hd)
          have Z6 := hd.size
          have N6 : w5.heap.size ≤ w6.heap.size := (by first | with_reducible exact Z6 | (simp only [szA, szS, szD] at Z6; omega))
          clear Z6
          have Xres_6 := Lib.hid (hd.at_ Xres_5.out (by first | omega | (simp only [szA, szS, szD, World.heap_drewN] at * <;> omega)))
          have Xs_6 := Lib.hid (hd.at_ Xs_5.out (by first | omega | (simp only [szA, szS, szD, World.heap_drewN] at * <;> omega)))
          have Od_6 := Lib.hid (Od_5.out.past hd.g hlt)
          have Og_6 := Lib.hid (ho_g.mono (lo' := w1.heap.size) (by first | omega | (simp only [szA, szS, szD, World.heap_drewN] at * <;> omega)) (Nat.le_refl _)); obtain ⟨ag0, pg0, ag2, pg2, rfl, hx_g⟩ := ho_g; clear hx_g
          clear hd
          obtain ⟨cres6_0, cres6_1, cres6_2, fres6_0, fres6_1, fres6_2⟩ := box3 Xres_6.out; have lres6 := heap_lt Xres_6.out
          obtain ⟨cs6_0, cs6_1, cs6_2, fs6_0, fs6_1, fs6_2⟩ := box3 Xs_6.out; have ls6 := heap_lt Xs_6.out
          have S6 : w1.heap.size ≤ w6.heap.size := (by omega)
          clear cres5_0 cres5_1 cres5_2 fres5_0 fres5_1 fres5_2 cs5_0 cs5_1 cs5_2 fs5_0 fs5_1 fs5_2
          go_wp2_with (fail)
          refine bodyPost_ret (v := .tuple #[.agg #[.slice ag0 cg.readers.length pg0, .int .i64 cg.writer, .slice ag2 cg.q.length pg2], .int .i64 cd.writer]) (by simp [results, Tryd.results37, go_sem, cres6_0, cres6_1, cres6_2, lres6]) rfl ⟨_, cg, _, rfl, (((Og_6.out.setB (w.heap.size) 0 Xres_6.out (by decide) (.slice ag0 cg.readers.length pg0)).setB (w.heap.size) 1 (set_at (a := ⟨w.heap.size, 0, none⟩) Xres_6.out rfl rfl (.slice ag0 cg.readers.length pg0)) (by decide) (.int .i64 cg.writer)).setB (w.heap.size) 2 (set_at (a := ⟨w.heap.size, 1, none⟩) (set_at (a := ⟨w.heap.size, 0, none⟩) Xres_6.out rfl rfl (.slice ag0 cg.readers.length pg0)) rfl rfl (.int .i64 cg.writer)) (by decide) (.slice ag2 cg.q.length pg2)).mono (by first | omega | (simp only [szA, szS, szD, World.heap_drewN] at * <;> omega)) (by first | omega | (simp only [szA, szS, szD, World.heap_drewN] at * <;> omega)), hfg, (below_setAt (below_setAt (below_setAt (Dr.out B1.out A6.out (by omega)) (w.heap.size) 0 (by first | omega | (simp only [szA, szS, szD, World.heap_drewN] at * <;> omega)) (.slice ag0 cg.readers.length pg0)) (w.heap.size) 1 (by first | omega | (simp only [szA, szS, szD, World.heap_drewN] at * <;> omega)) (.int .i64 cg.writer)) (w.heap.size) 2 (by first | omega | (simp only [szA, szS, szD, World.heap_drewN] at * <;> omega)) (.slice ag2 cg.q.length pg2))⟩
      · have d5 := len_eq hr
        have d6 : decide ((0 : Int) < (cd.readers.length : Int)) = false := decide_eq_false (by omega)
        go_wp2_with (fail)
        refine (l4Wrong_calls (w.heap.size + 1) (0 + 102) 13 _ cd w1 _ A4.out (by omega) (Od_4.out.row) HFD.out (by omega)).mono ?_
        rintro e w5 ⟨vg, cg, rfl, ho_g, hfg, hd⟩
        have A5 := Lib.hid (Dr.then A4.out hd)
        have Z5 := hd.size
        have N5 : w4.heap.size ≤ w5.heap.size := (by first | with_reducible exact Z5 | (simp only [szA, szS, szD] at Z5; omega))
        clear Z5
        have Xres_5 := Lib.hid (hd.at_ Xres_4.out (by first | omega | (simp only [szA, szS, szD, World.heap_drewN] at * <;> omega)))
        have Xs_5 := Lib.hid (hd.at_ Xs_4.out (by first | omega | (simp only [szA, szS, szD, World.heap_drewN] at * <;> omega)))
        have Od_5 := Lib.hid (Od_4.out.past hd.g hlt)
        have Og_5 := Lib.hid (ho_g.mono (lo' := w1.heap.size) (by first | omega | (simp only [szA, szS, szD, World.heap_drewN] at * <;> omega)) (Nat.le_refl _)); obtain ⟨ag0, pg0, ag2, pg2, rfl, hx_g⟩ := ho_g; clear hx_g
        clear hd
        obtain ⟨cres5_0, cres5_1, cres5_2, fres5_0, fres5_1, fres5_2⟩ := box3 Xres_5.out; have lres5 := heap_lt Xres_5.out
        obtain ⟨cs5_0, cs5_1, cs5_2, fs5_0, fs5_1, fs5_2⟩ := box3 Xs_5.out; have ls5 := heap_lt Xs_5.out
        have S5 : w1.heap.size ≤ w5.heap.size := (by omega)
        clear cres4_0 cres4_1 cres4_2 fres4_0 fres4_1 fres4_2 cs4_0 cs4_1 cs4_2 fs4_0 fs4_1 fs4_2
        go_wp2_with (fail)
        refine bodyPost_ret (v := .tuple #[.agg #[.slice ag0 cg.readers.length pg0, .int .i64 cg.writer, .slice ag2 cg.q.length pg2], .int .i64 cd.writer]) (by simp [results, Tryd.results37, go_sem, cres5_0, cres5_1, cres5_2, lres5]) rfl ⟨_, cg, _, rfl, (((Og_5.out.setB (w.heap.size) 0 Xres_5.out (by decide) (.slice ag0 cg.readers.length pg0)).setB (w.heap.size) 1 (set_at (a := ⟨w.heap.size, 0, none⟩) Xres_5.out rfl rfl (.slice ag0 cg.readers.length pg0)) (by decide) (.int .i64 cg.writer)).setB (w.heap.size) 2 (set_at (a := ⟨w.heap.size, 1, none⟩) (set_at (a := ⟨w.heap.size, 0, none⟩) Xres_5.out rfl rfl (.slice ag0 cg.readers.length pg0)) rfl rfl (.int .i64 cg.writer)) (by decide) (.slice ag2 cg.q.length pg2)).mono (by first | omega | (simp only [szA, szS, szD, World.heap_drewN] at * <;> omega)) (by first | omega | (simp only [szA, szS, szD, World.heap_drewN] at * <;> omega)), hfg, (below_setAt (below_setAt (below_setAt (Dr.out B1.out A5.out (by omega)) (w.heap.size) 0 (by first | omega | (simp only [szA, szS, szD, World.heap_drewN] at * <;> omega)) (.slice ag0 cg.readers.length pg0)) (w.heap.size) 1 (by first | omega | (simp only [szA, szS, szD, World.heap_drewN] at * <;> omega)) (.int .i64 cg.writer)) (w.heap.size) 2 (by first | omega | (simp only [szA, szS, szD, World.heap_drewN] at * <;> omega)) (.slice ag2 cg.q.length pg2))⟩
    · have e_x1 : (x1 == 0) = false := beq_false_of_ne hx1
      have f_x1 := decide_eq_false hx1
      by_cases hr : 0 < cd.readers.length
      · have d5 := len_ne hr
        have d6 : decide ((0 : Int) < (cd.readers.length : Int)) = true := decide_eq_true (by omega)
        go_wp2_with (fail)
        refine (pickD (w.heap.size + 1) (0 + 102) 2 w1 _ A4.out (by omega) (by decide)).mono ?_
        rintro e w5 ⟨x2, rfl, hx20, hx21, hd⟩
        have A5 := Lib.hid (Dr.then A4.out hd)
        have Z5 := hd.size
        have N5 : w4.heap.size ≤ w5.heap.size := (by first | with_reducible exact Z5 | (simp only [szA, szS, szD] at Z5; omega))
        clear Z5
        have Xres_5 := Lib.hid (hd.at_ Xres_4.out (by first | omega | (simp only [szA, szS, szD, World.heap_drewN] at * <;> omega)))
        have Xs_5 := Lib.hid (hd.at_ Xs_4.out (by first | omega | (simp only [szA, szS, szD, World.heap_drewN] at * <;> omega)))
        have Od_5 := Lib.hid (Od_4.out.past hd.g hlt)
        clear hd
        obtain ⟨cres5_0, cres5_1, cres5_2, fres5_0, fres5_1, fres5_2⟩ := box3 Xres_5.out; have lres5 := heap_lt Xres_5.out
        obtain ⟨cs5_0, cs5_1, cs5_2, fs5_0, fs5_1, fs5_2⟩ := box3 Xs_5.out; have ls5 := heap_lt Xs_5.out
        have S5 : w1.heap.size ≤ w5.heap.size := (by omega)
        clear cres4_0 cres4_1 cres4_2 fres4_0 fres4_1 fres4_2 cs4_0 cs4_1 cs4_2 fs4_0 fs4_1 fs4_2
        by_cases hx2 : x2 = 0
        · subst hx2
          go_wp2_with (fail)
          go_region_law ((refine step_fn rfl 32 #[.pointer (some ⟨w.heap.size + 1, 0, none⟩), .int .i64 (cd.readers.length : Int)] (by simp [execOp, resolve, invoke, Act.eval, Act.put, go_sem]) ((pickD (w.heap.size + 1) (0 + 103) (cd.readers.length : Int) w1 _ (by exact (A5.out.drew)) (by omega) (by omega)).mono ?_); rintro e w6 ⟨y, rfl, hya, hyb, hd⟩; refine ⟨_, rfl, ?_⟩; have A6 := Lib.hid (Dr.then (A5.out.drew) hd); have Z6 := hd.size; have N6 : w5.heap.size ≤ w6.heap.size := (by first | with_reducible exact Z6 | (simp only [szA, szS, szD] at Z6; omega)); clear Z6; have Xres_6 := Lib.hid (hd.at_ (heap_drew Xres_5.out) (by first | omega | (simp only [szA, szS, szD, World.heap_drewN] at * <;> omega))); have Xs_6 := Lib.hid (hd.at_ (heap_drew Xs_5.out) (by first | omega | (simp only [szA, szS, szD, World.heap_drewN] at * <;> omega))); have Od_6 := Lib.hid ((Od_5.out.drew).past hd.g hlt); clear hd; obtain ⟨cres6_0, cres6_1, cres6_2, fres6_0, fres6_1, fres6_2⟩ := box3 Xres_6.out; have lres6 := heap_lt Xres_6.out; obtain ⟨cs6_0, cs6_1, cs6_2, fs6_0, fs6_1, fs6_2⟩ := box3 Xs_6.out; have ls6 := heap_lt Xs_6.out; have S6 : w1.heap.size ≤ w6.heap.size := (by omega); obtain ⟨k, rfl⟩ := Int.eq_ofNat_of_zero_le hya; have hkl : k < cd.readers.length := (by omega); have j1 : (k : Int) < (cd.readers.length : Int) := (by omega); have j0 : (0 : Int) ≤ (k : Int) := (by omega); obtain ⟨z, hz⟩ := get_ex hkl; obtain ⟨_, _, ee, _, _, rr⟩ := IRow.look (LockRow.parts (Od_6.out.row)).1; injection ee with e1 _ e2; subst e1 e2; obtain ⟨bb, off, rfl, hblt, hc⟩ := rr (by omega); have c1 := hc k z hz; clear hc hz rr))
          clear cres5_0 cres5_1 cres5_2 fres5_0 fres5_1 fres5_2 cs5_0 cs5_1 cs5_2 fs5_0 fs5_1 fs5_2
          all_goals
            go_wp2_with (fail)
            refine (l4Wrong_calls (w.heap.size + 1) (0 + 104) 13 _ cd w1 _ A6.out (by omega) (Od_6.out.row) HFD.out (by omega)).mono ?_
            rintro e w7 ⟨vg, cg, rfl, ho_g, hfg, hd⟩
            have A7 := Lib.hid (Dr.then A6.out hd)
            have Z7 := hd.size
            have N7 : w6.heap.size ≤ w7.heap.size := (by first | with_reducible exact Z7 | (simp only [szA, szS, szD] at Z7; omega))
            clear Z7
            have Xres_7 := Lib.hid (hd.at_ Xres_6.out (by first | omega | (simp only [szA, szS, szD, World.heap_drewN] at * <;> omega)))
            have Xs_7 := Lib.hid (hd.at_ Xs_6.out (by first | omega | (simp only [szA, szS, szD, World.heap_drewN] at * <;> omega)))
            have Od_7 := Lib.hid (Od_6.out.past hd.g hlt)
            have Og_7 := Lib.hid (ho_g.mono (lo' := w1.heap.size) (by first | omega | (simp only [szA, szS, szD, World.heap_drewN] at * <;> omega)) (Nat.le_refl _)); obtain ⟨ag0, pg0, ag2, pg2, rfl, hx_g⟩ := ho_g; clear hx_g
            clear hd
            obtain ⟨cres7_0, cres7_1, cres7_2, fres7_0, fres7_1, fres7_2⟩ := box3 Xres_7.out; have lres7 := heap_lt Xres_7.out
            obtain ⟨cs7_0, cs7_1, cs7_2, fs7_0, fs7_1, fs7_2⟩ := box3 Xs_7.out; have ls7 := heap_lt Xs_7.out
            have S7 : w1.heap.size ≤ w7.heap.size := (by omega)
            clear cres6_0 cres6_1 cres6_2 fres6_0 fres6_1 fres6_2 cs6_0 cs6_1 cs6_2 fs6_0 fs6_1 fs6_2
            go_wp2_with (fail)
            refine bodyPost_ret (v := .tuple #[.agg #[.slice ag0 cg.readers.length pg0, .int .i64 cg.writer, .slice ag2 cg.q.length pg2], .int .i64 z]) (by simp [results, Tryd.results37, go_sem, cres7_0, cres7_1, cres7_2, lres7]) rfl ⟨_, cg, _, rfl, (((Og_7.out.setB (w.heap.size) 0 Xres_7.out (by decide) (.slice ag0 cg.readers.length pg0)).setB (w.heap.size) 1 (set_at (a := ⟨w.heap.size, 0, none⟩) Xres_7.out rfl rfl (.slice ag0 cg.readers.length pg0)) (by decide) (.int .i64 cg.writer)).setB (w.heap.size) 2 (set_at (a := ⟨w.heap.size, 1, none⟩) (set_at (a := ⟨w.heap.size, 0, none⟩) Xres_7.out rfl rfl (.slice ag0 cg.readers.length pg0)) rfl rfl (.int .i64 cg.writer)) (by decide) (.slice ag2 cg.q.length pg2)).mono (by first | omega | (simp only [szA, szS, szD, World.heap_drewN] at * <;> omega)) (by first | omega | (simp only [szA, szS, szD, World.heap_drewN] at * <;> omega)), hfg, (below_setAt (below_setAt (below_setAt (Dr.out B1.out A7.out (by omega)) (w.heap.size) 0 (by first | omega | (simp only [szA, szS, szD, World.heap_drewN] at * <;> omega)) (.slice ag0 cg.readers.length pg0)) (w.heap.size) 1 (by first | omega | (simp only [szA, szS, szD, World.heap_drewN] at * <;> omega)) (.int .i64 cg.writer)) (w.heap.size) 2 (by first | omega | (simp only [szA, szS, szD, World.heap_drewN] at * <;> omega)) (.slice ag2 cg.q.length pg2))⟩
        · have e_x2 : (x2 == 0) = false := beq_false_of_ne hx2
          have f_x2 := decide_eq_false hx2
          go_wp2_with (fail)
          refine (l4Wrong_calls (w.heap.size + 1) (0 + 103) 13 _ cd w1 _ A5.out (by omega) (Od_5.out.row) HFD.out (by omega)).mono ?_
          rintro e w6 ⟨vg, cg, rfl, ho_g, hfg, hd⟩
          have A6 := Lib.hid (Dr.then A5.out hd)
          have Z6 := hd.size
          have N6 : w5.heap.size ≤ w6.heap.size := (by first | with_reducible exact Z6 | (simp only [szA, szS, szD] at Z6; omega))
          clear Z6
          have Xres_6 := Lib.hid (hd.at_ Xres_5.out (by first | omega | (simp only [szA, szS, szD, World.heap_drewN] at * <;> omega)))
          have Xs_6 := Lib.hid (hd.at_ Xs_5.out (by first | omega | (simp only [szA, szS, szD, World.heap_drewN] at * <;> omega)))
          have Od_6 := Lib.hid (Od_5.out.past hd.g hlt)
          have Og_6 := Lib.hid (ho_g.mono (lo' := w1.heap.size) (by first | omega | (simp only [szA, szS, szD, World.heap_drewN] at * <;> omega)) (Nat.le_refl _)); obtain ⟨ag0, pg0, ag2, pg2, rfl, hx_g⟩ := ho_g; clear hx_g
          clear hd
          obtain ⟨cres6_0, cres6_1, cres6_2, fres6_0, fres6_1, fres6_2⟩ := box3 Xres_6.out; have lres6 := heap_lt Xres_6.out
          obtain ⟨cs6_0, cs6_1, cs6_2, fs6_0, fs6_1, fs6_2⟩ := box3 Xs_6.out; have ls6 := heap_lt Xs_6.out
          have S6 : w1.heap.size ≤ w6.heap.size := (by omega)
          clear cres5_0 cres5_1 cres5_2 fres5_0 fres5_1 fres5_2 cs5_0 cs5_1 cs5_2 fs5_0 fs5_1 fs5_2
          go_wp2_with (fail)
          refine bodyPost_ret (v := .tuple #[.agg #[.slice ag0 cg.readers.length pg0, .int .i64 cg.writer, .slice ag2 cg.q.length pg2], .int .i64 y0]) (by simp [results, Tryd.results37, go_sem, cres6_0, cres6_1, cres6_2, lres6]) rfl ⟨_, cg, _, rfl, (((Og_6.out.setB (w.heap.size) 0 Xres_6.out (by decide) (.slice ag0 cg.readers.length pg0)).setB (w.heap.size) 1 (set_at (a := ⟨w.heap.size, 0, none⟩) Xres_6.out rfl rfl (.slice ag0 cg.readers.length pg0)) (by decide) (.int .i64 cg.writer)).setB (w.heap.size) 2 (set_at (a := ⟨w.heap.size, 1, none⟩) (set_at (a := ⟨w.heap.size, 0, none⟩) Xres_6.out rfl rfl (.slice ag0 cg.readers.length pg0)) rfl rfl (.int .i64 cg.writer)) (by decide) (.slice ag2 cg.q.length pg2)).mono (by first | omega | (simp only [szA, szS, szD, World.heap_drewN] at * <;> omega)) (by first | omega | (simp only [szA, szS, szD, World.heap_drewN] at * <;> omega)), hfg, (below_setAt (below_setAt (below_setAt (Dr.out B1.out A6.out (by omega)) (w.heap.size) 0 (by first | omega | (simp only [szA, szS, szD, World.heap_drewN] at * <;> omega)) (.slice ag0 cg.readers.length pg0)) (w.heap.size) 1 (by first | omega | (simp only [szA, szS, szD, World.heap_drewN] at * <;> omega)) (.int .i64 cg.writer)) (w.heap.size) 2 (by first | omega | (simp only [szA, szS, szD, World.heap_drewN] at * <;> omega)) (.slice ag2 cg.q.length pg2))⟩
      · have d5 := len_eq hr
        have d6 : decide ((0 : Int) < (cd.readers.length : Int)) = false := decide_eq_false (by omega)
        go_wp2_with (fail)
        refine (l4Wrong_calls (w.heap.size + 1) (0 + 102) 13 _ cd w1 _ A4.out (by omega) (Od_4.out.row) HFD.out (by omega)).mono ?_
        rintro e w5 ⟨vg, cg, rfl, ho_g, hfg, hd⟩
        have A5 := Lib.hid (Dr.then A4.out hd)
        have Z5 := hd.size
        have N5 : w4.heap.size ≤ w5.heap.size := (by first | with_reducible exact Z5 | (simp only [szA, szS, szD] at Z5; omega))
        clear Z5
        have Xres_5 := Lib.hid (hd.at_ Xres_4.out (by first | omega | (simp only [szA, szS, szD, World.heap_drewN] at * <;> omega)))
        have Xs_5 := Lib.hid (hd.at_ Xs_4.out (by first | omega | (simp only [szA, szS, szD, World.heap_drewN] at * <;> omega)))
        have Od_5 := Lib.hid (Od_4.out.past hd.g hlt)
        have Og_5 := Lib.hid (ho_g.mono (lo' := w1.heap.size) (by first | omega | (simp only [szA, szS, szD, World.heap_drewN] at * <;> omega)) (Nat.le_refl _)); obtain ⟨ag0, pg0, ag2, pg2, rfl, hx_g⟩ := ho_g; clear hx_g
        clear hd
        obtain ⟨cres5_0, cres5_1, cres5_2, fres5_0, fres5_1, fres5_2⟩ := box3 Xres_5.out; have lres5 := heap_lt Xres_5.out
        obtain ⟨cs5_0, cs5_1, cs5_2, fs5_0, fs5_1, fs5_2⟩ := box3 Xs_5.out; have ls5 := heap_lt Xs_5.out
        have S5 : w1.heap.size ≤ w5.heap.size := (by omega)
        clear cres4_0 cres4_1 cres4_2 fres4_0 fres4_1 fres4_2 cs4_0 cs4_1 cs4_2 fs4_0 fs4_1 fs4_2
        go_wp2_with (fail)
        refine bodyPost_ret (v := .tuple #[.agg #[.slice ag0 cg.readers.length pg0, .int .i64 cg.writer, .slice ag2 cg.q.length pg2], .int .i64 y0]) (by simp [results, Tryd.results37, go_sem, cres5_0, cres5_1, cres5_2, lres5]) rfl ⟨_, cg, _, rfl, (((Og_5.out.setB (w.heap.size) 0 Xres_5.out (by decide) (.slice ag0 cg.readers.length pg0)).setB (w.heap.size) 1 (set_at (a := ⟨w.heap.size, 0, none⟩) Xres_5.out rfl rfl (.slice ag0 cg.readers.length pg0)) (by decide) (.int .i64 cg.writer)).setB (w.heap.size) 2 (set_at (a := ⟨w.heap.size, 1, none⟩) (set_at (a := ⟨w.heap.size, 0, none⟩) Xres_5.out rfl rfl (.slice ag0 cg.readers.length pg0)) rfl rfl (.int .i64 cg.writer)) (by decide) (.slice ag2 cg.q.length pg2)).mono (by first | omega | (simp only [szA, szS, szD, World.heap_drewN] at * <;> omega)) (by first | omega | (simp only [szA, szS, szD, World.heap_drewN] at * <;> omega)), hfg, (below_setAt (below_setAt (below_setAt (Dr.out B1.out A5.out (by omega)) (w.heap.size) 0 (by first | omega | (simp only [szA, szS, szD, World.heap_drewN] at * <;> omega)) (.slice ag0 cg.readers.length pg0)) (w.heap.size) 1 (by first | omega | (simp only [szA, szS, szD, World.heap_drewN] at * <;> omega)) (.int .i64 cg.writer)) (w.heap.size) 2 (by first | omega | (simp only [szA, szS, szD, World.heap_drewN] at * <;> omega)) (.slice ag2 cg.q.length pg2))⟩
  · have d4 := decide_eq_false hw
    by_cases hr : 0 < cd.readers.length
    · have d5 := len_ne hr
      have d6 : decide ((0 : Int) < (cd.readers.length : Int)) = true := decide_eq_true (by omega)
      go_wp2_with (fail)
      refine (pickD (w.heap.size + 1) (0 + 101) 2 w1 _ A3.out (by omega) (by decide)).mono ?_
      rintro e w4 ⟨x2, rfl, hx20, hx21, hd⟩
      have A4 := Lib.hid (Dr.then A3.out hd)
      have Z4 := hd.size
      have N4 : w3.heap.size ≤ w4.heap.size := (by first | with_reducible exact Z4 | (simp only [szA, szS, szD] at Z4; omega))
      clear Z4
      have Xres_4 := Lib.hid (hd.at_ Xres_3.out (by first | omega | (simp only [szA, szS, szD, World.heap_drewN] at * <;> omega)))
      have Xs_4 := Lib.hid (hd.at_ Xs_3.out (by first | omega | (simp only [szA, szS, szD, World.heap_drewN] at * <;> omega)))
      have Od_4 := Lib.hid (Od_3.out.past hd.g hlt)
      clear hd
      obtain ⟨cres4_0, cres4_1, cres4_2, fres4_0, fres4_1, fres4_2⟩ := box3 Xres_4.out; have lres4 := heap_lt Xres_4.out
      obtain ⟨cs4_0, cs4_1, cs4_2, fs4_0, fs4_1, fs4_2⟩ := box3 Xs_4.out; have ls4 := heap_lt Xs_4.out
      have S4 : w1.heap.size ≤ w4.heap.size := (by omega)
      clear cres3_0 cres3_1 cres3_2 fres3_0 fres3_1 fres3_2 cs3_0 cs3_1 cs3_2 fs3_0 fs3_1 fs3_2
      by_cases hx2 : x2 = 0
      · subst hx2
        go_wp2_with (fail)
        go_region_law ((refine step_fn rfl 32 #[.pointer (some ⟨w.heap.size + 1, 0, none⟩), .int .i64 (cd.readers.length : Int)] (by simp [execOp, resolve, invoke, Act.eval, Act.put, go_sem]) ((pickD (w.heap.size + 1) (0 + 102) (cd.readers.length : Int) w1 _ (by exact (A4.out.drew)) (by omega) (by omega)).mono ?_); rintro e w5 ⟨y, rfl, hya, hyb, hd⟩; refine ⟨_, rfl, ?_⟩; have A5 := Lib.hid (Dr.then (A4.out.drew) hd); have Z5 := hd.size; have N5 : w4.heap.size ≤ w5.heap.size := (by first | with_reducible exact Z5 | (simp only [szA, szS, szD] at Z5; omega)); clear Z5; have Xres_5 := Lib.hid (hd.at_ (heap_drew Xres_4.out) (by first | omega | (simp only [szA, szS, szD, World.heap_drewN] at * <;> omega))); have Xs_5 := Lib.hid (hd.at_ (heap_drew Xs_4.out) (by first | omega | (simp only [szA, szS, szD, World.heap_drewN] at * <;> omega))); have Od_5 := Lib.hid ((Od_4.out.drew).past hd.g hlt); clear hd; obtain ⟨cres5_0, cres5_1, cres5_2, fres5_0, fres5_1, fres5_2⟩ := box3 Xres_5.out; have lres5 := heap_lt Xres_5.out; obtain ⟨cs5_0, cs5_1, cs5_2, fs5_0, fs5_1, fs5_2⟩ := box3 Xs_5.out; have ls5 := heap_lt Xs_5.out; have S5 : w1.heap.size ≤ w5.heap.size := (by omega); obtain ⟨k, rfl⟩ := Int.eq_ofNat_of_zero_le hya; have hkl : k < cd.readers.length := (by omega); have j1 : (k : Int) < (cd.readers.length : Int) := (by omega); have j0 : (0 : Int) ≤ (k : Int) := (by omega); obtain ⟨z, hz⟩ := get_ex hkl; obtain ⟨_, _, ee, _, _, rr⟩ := IRow.look (LockRow.parts (Od_5.out.row)).1; injection ee with e1 _ e2; subst e1 e2; obtain ⟨bb, off, rfl, hblt, hc⟩ := rr (by omega); have c1 := hc k z hz; clear hc hz rr))
        clear cres4_0 cres4_1 cres4_2 fres4_0 fres4_1 fres4_2 cs4_0 cs4_1 cs4_2 fs4_0 fs4_1 fs4_2
        all_goals
          go_wp2_with (fail)
          refine (l4Wrong_calls (w.heap.size + 1) (0 + 103) 13 _ cd w1 _ A5.out (by omega) (Od_5.out.row) HFD.out (by omega)).mono ?_
          rintro e w6 ⟨vg, cg, rfl, ho_g, hfg, hd⟩
          have A6 := Lib.hid (Dr.then A5.out hd)
          have Z6 := hd.size
          have N6 : w5.heap.size ≤ w6.heap.size := (by first | with_reducible exact Z6 | (simp only [szA, szS, szD] at Z6; omega))
          clear Z6
          have Xres_6 := Lib.hid (hd.at_ Xres_5.out (by first | omega | (simp only [szA, szS, szD, World.heap_drewN] at * <;> omega)))
          have Xs_6 := Lib.hid (hd.at_ Xs_5.out (by first | omega | (simp only [szA, szS, szD, World.heap_drewN] at * <;> omega)))
          have Od_6 := Lib.hid (Od_5.out.past hd.g hlt)
          have Og_6 := Lib.hid (ho_g.mono (lo' := w1.heap.size) (by first | omega | (simp only [szA, szS, szD, World.heap_drewN] at * <;> omega)) (Nat.le_refl _)); obtain ⟨ag0, pg0, ag2, pg2, rfl, hx_g⟩ := ho_g; clear hx_g
          clear hd
          obtain ⟨cres6_0, cres6_1, cres6_2, fres6_0, fres6_1, fres6_2⟩ := box3 Xres_6.out; have lres6 := heap_lt Xres_6.out
          obtain ⟨cs6_0, cs6_1, cs6_2, fs6_0, fs6_1, fs6_2⟩ := box3 Xs_6.out; have ls6 := heap_lt Xs_6.out
          have S6 : w1.heap.size ≤ w6.heap.size := (by omega)
          clear cres5_0 cres5_1 cres5_2 fres5_0 fres5_1 fres5_2 cs5_0 cs5_1 cs5_2 fs5_0 fs5_1 fs5_2
          go_wp2_with (fail)
          refine bodyPost_ret (v := .tuple #[.agg #[.slice ag0 cg.readers.length pg0, .int .i64 cg.writer, .slice ag2 cg.q.length pg2], .int .i64 z]) (by simp [results, Tryd.results37, go_sem, cres6_0, cres6_1, cres6_2, lres6]) rfl ⟨_, cg, _, rfl, (((Og_6.out.setB (w.heap.size) 0 Xres_6.out (by decide) (.slice ag0 cg.readers.length pg0)).setB (w.heap.size) 1 (set_at (a := ⟨w.heap.size, 0, none⟩) Xres_6.out rfl rfl (.slice ag0 cg.readers.length pg0)) (by decide) (.int .i64 cg.writer)).setB (w.heap.size) 2 (set_at (a := ⟨w.heap.size, 1, none⟩) (set_at (a := ⟨w.heap.size, 0, none⟩) Xres_6.out rfl rfl (.slice ag0 cg.readers.length pg0)) rfl rfl (.int .i64 cg.writer)) (by decide) (.slice ag2 cg.q.length pg2)).mono (by first | omega | (simp only [szA, szS, szD, World.heap_drewN] at * <;> omega)) (by first | omega | (simp only [szA, szS, szD, World.heap_drewN] at * <;> omega)), hfg, (below_setAt (below_setAt (below_setAt (Dr.out B1.out A6.out (by omega)) (w.heap.size) 0 (by first | omega | (simp only [szA, szS, szD, World.heap_drewN] at * <;> omega)) (.slice ag0 cg.readers.length pg0)) (w.heap.size) 1 (by first | omega | (simp only [szA, szS, szD, World.heap_drewN] at * <;> omega)) (.int .i64 cg.writer)) (w.heap.size) 2 (by first | omega | (simp only [szA, szS, szD, World.heap_drewN] at * <;> omega)) (.slice ag2 cg.q.length pg2))⟩
      · have e_x2 : (x2 == 0) = false := beq_false_of_ne hx2
        have f_x2 := decide_eq_false hx2
        go_wp2_with (fail)
        refine (l4Wrong_calls (w.heap.size + 1) (0 + 102) 13 _ cd w1 _ A4.out (by omega) (Od_4.out.row) HFD.out (by omega)).mono ?_
        rintro e w5 ⟨vg, cg, rfl, ho_g, hfg, hd⟩
        have A5 := Lib.hid (Dr.then A4.out hd)
        have Z5 := hd.size
        have N5 : w4.heap.size ≤ w5.heap.size := (by first | with_reducible exact Z5 | (simp only [szA, szS, szD] at Z5; omega))
        clear Z5
        have Xres_5 := Lib.hid (hd.at_ Xres_4.out (by first | omega | (simp only [szA, szS, szD, World.heap_drewN] at * <;> omega)))
        have Xs_5 := Lib.hid (hd.at_ Xs_4.out (by first | omega | (simp only [szA, szS, szD, World.heap_drewN] at * <;> omega)))
        have Od_5 := Lib.hid (Od_4.out.past hd.g hlt)
        have Og_5 := Lib.hid (ho_g.mono (lo' := w1.heap.size) (by first | omega | (simp only [szA, szS, szD, World.heap_drewN] at * <;> omega)) (Nat.le_refl _)); obtain ⟨ag0, pg0, ag2, pg2, rfl, hx_g⟩ := ho_g; clear hx_g
        clear hd
        obtain ⟨cres5_0, cres5_1, cres5_2, fres5_0, fres5_1, fres5_2⟩ := box3 Xres_5.out; have lres5 := heap_lt Xres_5.out
        obtain ⟨cs5_0, cs5_1, cs5_2, fs5_0, fs5_1, fs5_2⟩ := box3 Xs_5.out; have ls5 := heap_lt Xs_5.out
        have S5 : w1.heap.size ≤ w5.heap.size := (by omega)
        clear cres4_0 cres4_1 cres4_2 fres4_0 fres4_1 fres4_2 cs4_0 cs4_1 cs4_2 fs4_0 fs4_1 fs4_2
        go_wp2_with (fail)
        refine bodyPost_ret (v := .tuple #[.agg #[.slice ag0 cg.readers.length pg0, .int .i64 cg.writer, .slice ag2 cg.q.length pg2], .int .i64 y0]) (by simp [results, Tryd.results37, go_sem, cres5_0, cres5_1, cres5_2, lres5]) rfl ⟨_, cg, _, rfl, (((Og_5.out.setB (w.heap.size) 0 Xres_5.out (by decide) (.slice ag0 cg.readers.length pg0)).setB (w.heap.size) 1 (set_at (a := ⟨w.heap.size, 0, none⟩) Xres_5.out rfl rfl (.slice ag0 cg.readers.length pg0)) (by decide) (.int .i64 cg.writer)).setB (w.heap.size) 2 (set_at (a := ⟨w.heap.size, 1, none⟩) (set_at (a := ⟨w.heap.size, 0, none⟩) Xres_5.out rfl rfl (.slice ag0 cg.readers.length pg0)) rfl rfl (.int .i64 cg.writer)) (by decide) (.slice ag2 cg.q.length pg2)).mono (by first | omega | (simp only [szA, szS, szD, World.heap_drewN] at * <;> omega)) (by first | omega | (simp only [szA, szS, szD, World.heap_drewN] at * <;> omega)), hfg, (below_setAt (below_setAt (below_setAt (Dr.out B1.out A5.out (by omega)) (w.heap.size) 0 (by first | omega | (simp only [szA, szS, szD, World.heap_drewN] at * <;> omega)) (.slice ag0 cg.readers.length pg0)) (w.heap.size) 1 (by first | omega | (simp only [szA, szS, szD, World.heap_drewN] at * <;> omega)) (.int .i64 cg.writer)) (w.heap.size) 2 (by first | omega | (simp only [szA, szS, szD, World.heap_drewN] at * <;> omega)) (.slice ag2 cg.q.length pg2))⟩
    · have d5 := len_eq hr
      have d6 : decide ((0 : Int) < (cd.readers.length : Int)) = false := decide_eq_false (by omega)
      go_wp2_with (fail)
      refine (l4Wrong_calls (w.heap.size + 1) (0 + 101) 13 _ cd w1 _ A3.out (by omega) (Od_3.out.row) HFD.out (by omega)).mono ?_
      rintro e w4 ⟨vg, cg, rfl, ho_g, hfg, hd⟩
      have A4 := Lib.hid (Dr.then A3.out hd)
      have Z4 := hd.size
      have N4 : w3.heap.size ≤ w4.heap.size := (by first | with_reducible exact Z4 | (simp only [szA, szS, szD] at Z4; omega))
      clear Z4
      have Xres_4 := Lib.hid (hd.at_ Xres_3.out (by first | omega | (simp only [szA, szS, szD, World.heap_drewN] at * <;> omega)))
      have Xs_4 := Lib.hid (hd.at_ Xs_3.out (by first | omega | (simp only [szA, szS, szD, World.heap_drewN] at * <;> omega)))
      have Od_4 := Lib.hid (Od_3.out.past hd.g hlt)
      have Og_4 := Lib.hid (ho_g.mono (lo' := w1.heap.size) (by first | omega | (simp only [szA, szS, szD, World.heap_drewN] at * <;> omega)) (Nat.le_refl _)); obtain ⟨ag0, pg0, ag2, pg2, rfl, hx_g⟩ := ho_g; clear hx_g
      clear hd
      obtain ⟨cres4_0, cres4_1, cres4_2, fres4_0, fres4_1, fres4_2⟩ := box3 Xres_4.out; have lres4 := heap_lt Xres_4.out
      obtain ⟨cs4_0, cs4_1, cs4_2, fs4_0, fs4_1, fs4_2⟩ := box3 Xs_4.out; have ls4 := heap_lt Xs_4.out
      have S4 : w1.heap.size ≤ w4.heap.size := (by omega)
      clear cres3_0 cres3_1 cres3_2 fres3_0 fres3_1 fres3_2 cs3_0 cs3_1 cs3_2 fs3_0 fs3_1 fs3_2
      go_wp2_with (fail)
      refine bodyPost_ret (v := .tuple #[.agg #[.slice ag0 cg.readers.length pg0, .int .i64 cg.writer, .slice ag2 cg.q.length pg2], .int .i64 y0]) (by simp [results, Tryd.results37, go_sem, cres4_0, cres4_1, cres4_2, lres4]) rfl ⟨_, cg, _, rfl, (((Og_4.out.setB (w.heap.size) 0 Xres_4.out (by decide) (.slice ag0 cg.readers.length pg0)).setB (w.heap.size) 1 (set_at (a := ⟨w.heap.size, 0, none⟩) Xres_4.out rfl rfl (.slice ag0 cg.readers.length pg0)) (by decide) (.int .i64 cg.writer)).setB (w.heap.size) 2 (set_at (a := ⟨w.heap.size, 1, none⟩) (set_at (a := ⟨w.heap.size, 0, none⟩) Xres_4.out rfl rfl (.slice ag0 cg.readers.length pg0)) rfl rfl (.int .i64 cg.writer)) (by decide) (.slice ag2 cg.q.length pg2)).mono (by first | omega | (simp only [szA, szS, szD, World.heap_drewN] at * <;> omega)) (by first | omega | (simp only [szA, szS, szD, World.heap_drewN] at * <;> omega)), hfg, (below_setAt (below_setAt (below_setAt (Dr.out B1.out A4.out (by omega)) (w.heap.size) 0 (by first | omega | (simp only [szA, szS, szD, World.heap_drewN] at * <;> omega)) (.slice ag0 cg.readers.length pg0)) (w.heap.size) 1 (by first | omega | (simp only [szA, szS, szD, World.heap_drewN] at * <;> omega)) (.int .i64 cg.writer)) (w.heap.size) 2 (by first | omega | (simp only [szA, szS, szD, World.heap_drewN] at * <;> omega)) (.slice ag2 cg.q.length pg2))⟩
end Go.Proofs.YtbnfhnfnbhigoaaDoor
