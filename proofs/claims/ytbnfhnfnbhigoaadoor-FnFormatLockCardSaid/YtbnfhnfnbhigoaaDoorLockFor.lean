/- LockFor of the reference (made by gen_lock.py). -/
import Derived.Test.YtbnfhnfnbhigoaaDoorLockGive
import Derived.Test.YtbnfhnfnbhigoaaDoorLockHolds
namespace Go.Proofs.YtbnfhnfnbhigoaaDoor
open Go.RowKit
set_option linter.unusedSimpArgs false
set_option linter.unusedVariables false
def LockShort (r : LockD) : Prop := r.readers.length + r.q.length ≤ 13
def LockForPost (w : World) (e : Ending) (w' : World) : Prop := ∃ v' r b1 b2, e = .returned (.tuple #[v', .bool b1, .bool b2]) ∧ LockOwn w.heap.size w'.heap.size w' v' r ∧ LockShort r ∧ Below w.heap.size w w'
set_option maxHeartbeats 8000000 in
theorem sLockFor_calls (v : Value) (c : LockD) (t : Int) (wb : Bool) (w : World) (h : LockRow w v c) (hn : c.readers.length + c.q.length ≤ 1000) :
    Calls Tryd.prog 49 #[v, .int .i64 t, .bool wb] w (LockForPost w) := by
  have HP := Lib.hid h
  obtain ⟨aP0, pP0, aP2, pP2, rfl, hr0, hr2⟩ := h
  have HI0 := Lib.hid hr0; have HI2 := Lib.hid hr2; clear hr0 hr2
  go_enter Tryd.func49, Tryd.ntmps49
  go_wp2_with (fail)
  refine (sLockValid_calls _ c _ (LockRow.below HP.out (Below.alloc (Below.alloc (Below.refl _ _) (by first | omega | (simp only [szA, szS, szD, World.heap_drewN] at * <;> omega)) _) (by first | omega | (simp only [szA, szS, szD, World.heap_drewN] at * <;> omega)) _)) (by omega)).mono ?_
  rintro e w1 ⟨rfl, hb⟩
  have B1 := Lib.hid (Below.trans (Below.alloc (Below.alloc (Below.refl _ _) (by first | omega | (simp only [szA, szS, szD, World.heap_drewN] at * <;> omega)) _) (by first | omega | (simp only [szA, szS, szD, World.heap_drewN] at * <;> omega)) _) (hb.mono (by first | omega | (simp only [szA, szS, szD, World.heap_drewN] at * <;> omega))) : Below w.heap.size w w1)
  have Z1 := hb.size
  have N1 : w.heap.size + 2 ≤ w1.heap.size := (by first | with_reducible exact Z1 | (simp only [szA, szS, szD] at Z1; omega))
  clear Z1
  have Xp_1 : Hid (w1.heap[w.heap.size]? = some (.cells #[.slice aP0 c.readers.length pP0, .int .i64 c.writer, .slice aP2 c.q.length pP2] 30 (0, 0))) := below_at hb (heap_up (heap_at' (n := w.heap.size) (by first | omega | (simp only [szA, szS, szD, World.heap_drewN] at * <;> omega))))
  have Xres_1 : Hid (w1.heap[w.heap.size + 1]? = some (.cells #[.slice none 0 0, .int .i64 0, .slice none 0 0] 30 (0, 0))) := below_at hb (heap_at' (n := w.heap.size + 1) (by first | omega | (simp only [szA, szS, szD, World.heap_drewN] at * <;> omega)))
  clear hb
  obtain ⟨cp1_0, cp1_1, cp1_2, fp1_0, fp1_1, fp1_2⟩ := box3 Xp_1.out; have lp1 := heap_lt Xp_1.out
  obtain ⟨cres1_0, cres1_1, cres1_2, fres1_0, fres1_1, fres1_2⟩ := box3 Xres_1.out; have lres1 := heap_lt Xres_1.out
  have S1 : w.heap.size ≤ w1.heap.size := (by omega)
  cases hv : lockB c
  · clear hv
    go_wp2_with (fail)
    refine bodyPost_ret (v := .tuple #[.agg #[.slice none 0 0, .int .i64 0, .slice none 0 0], .bool false, .bool false]) (by simp [results, Tryd.results49, go_sem, cres1_0, cres1_1, cres1_2, lres1]) rfl ⟨_, _, _, _, rfl, LockOwn.nils, by simp [LockShort], (sets3_below B1.out (by first | omega | (simp only [szA, szS, szD, World.heap_drewN] at * <;> omega)) (.slice none 0 0) (.int .i64 0) (.slice none 0 0))⟩
  · have HS := Lib.hid (lockB_true.1 hv).small; clear hv
    go_wp2_with (fail)
    refine (l1Thread_calls t _).mono ?_
    rintro e w' ⟨rfl, rfl⟩
    cases ht : thrB t
    · clear ht
      go_wp2_with (fail)
      refine bodyPost_ret (v := .tuple #[.agg #[.slice none 0 0, .int .i64 0, .slice none 0 0], .bool false, .bool false]) (by simp [results, Tryd.results49, go_sem, cres1_0, cres1_1, cres1_2, lres1]) rfl ⟨_, _, _, _, rfl, LockOwn.nils, by simp [LockShort], (sets3_below B1.out (by first | omega | (simp only [szA, szS, szD, World.heap_drewN] at * <;> omega)) (.slice none 0 0) (.int .i64 0) (.slice none 0 0))⟩
    · clear ht
      go_wp2_with (fail)
      refine (l4Holds_calls _ c t _ (LockRow.below HP.out B1.out)).mono ?_
      rintro e w2 ⟨rfl, hb⟩
      have B2 := Lib.hid (Below.trans B1.out (hb.mono (by first | omega | (simp only [szA, szS, szD, World.heap_drewN] at * <;> omega))) : Below w.heap.size w w2)
      have Z2 := hb.size
      have N2 : w1.heap.size ≤ w2.heap.size := (by first | with_reducible exact Z2 | (simp only [szA, szS, szD] at Z2; omega))
      clear Z2
      have Xp_2 := Lib.hid (below_at hb Xp_1.out)
      have Xres_2 := Lib.hid (below_at hb Xres_1.out)
      clear hb
      obtain ⟨cp2_0, cp2_1, cp2_2, fp2_0, fp2_1, fp2_2⟩ := box3 Xp_2.out; have lp2 := heap_lt Xp_2.out
      obtain ⟨cres2_0, cres2_1, cres2_2, fres2_0, fres2_1, fres2_2⟩ := box3 Xres_2.out; have lres2 := heap_lt Xres_2.out
      have S2 : w.heap.size ≤ w2.heap.size := (by omega)
      clear cp1_0 cp1_1 cp1_2 fp1_0 fp1_1 fp1_2 cres1_0 cres1_1 cres1_2 fres1_0 fres1_1 fres1_2
      cases hh : hasB c t
      · clear hh
        obtain ⟨ts, hts⟩ : ∃ ts, (c.q.take 7).map (·.1) = ts := ⟨_, rfl⟩
        go_wp2_with (fail)
        refine (l4Queue_calls _ c.q _ (Row.below HI2.out B2.out)).mono ?_
        rw [hts]
        rintro e w3 ⟨vz, rfl, ho_z, hb⟩
        have B3 := Lib.hid (Below.trans B2.out (hb.mono (by first | omega | (simp only [szA, szS, szD, World.heap_drewN] at * <;> omega))) : Below w.heap.size w w3)
        have Z3 := hb.size
        have N3 : w2.heap.size ≤ w3.heap.size := (by first | with_reducible exact Z3 | (simp only [szA, szS, szD] at Z3; omega))
        clear Z3
        have Xp_3 := Lib.hid (below_at hb Xp_2.out)
        have Xres_3 := Lib.hid (below_at hb Xres_2.out)
        have Oz_3 := Lib.hid (Own.mono (base' := w.heap.size) ho_z.own (by first | omega | (simp only [szA, szS, szD, World.heap_drewN] at * <;> omega))); obtain ⟨az, pz, rfl, hx_z⟩ := ho_z; clear hx_z
        clear hb
        obtain ⟨cp3_0, cp3_1, cp3_2, fp3_0, fp3_1, fp3_2⟩ := box3 Xp_3.out; have lp3 := heap_lt Xp_3.out
        obtain ⟨cres3_0, cres3_1, cres3_2, fres3_0, fres3_1, fres3_2⟩ := box3 Xres_3.out; have lres3 := heap_lt Xres_3.out
        have S3 : w.heap.size ≤ w3.heap.size := (by omega)
        clear cp2_0 cp2_1 cp2_2 fp2_0 fp2_1 fp2_2 cres2_0 cres2_1 cres2_2 fres2_0 fres2_1 fres2_2
        clear hts
        go_wp2_with (fail)
        refine (l2At_calls _ _ t _ (Oz_3.out.row encI_len)).mono ?_
        rintro e w' ⟨rfl, rfl⟩
        generalize place t ts = pl
        by_cases hpl : 0 ≤ pl
        · have d1 := decide_eq_true hpl
          go_wp2_with (fail)
          refine bodyPost_ret (v := .tuple #[.agg #[.slice none 0 0, .int .i64 0, .slice none 0 0], .bool false, .bool false]) (by simp [results, Tryd.results49, go_sem, cres3_0, cres3_1, cres3_2, lres3]) rfl ⟨_, _, _, _, rfl, LockOwn.nils, by simp [LockShort], (sets3_below B3.out (by first | omega | (simp only [szA, szS, szD, World.heap_drewN] at * <;> omega)) (.slice none 0 0) (.int .i64 0) (.slice none 0 0))⟩
        · have d1 := decide_eq_false hpl
          clear hpl
          go_wp2_with (fail)
          refine (l4Copy_calls _ c _ (LockRow.below HP.out B3.out) (by omega)).mono ?_
          rintro e w4 ⟨vg, rfl, ho_g, hb⟩
          have B4 := Lib.hid (Below.trans B3.out (hb.mono (by first | omega | (simp only [szA, szS, szD, World.heap_drewN] at * <;> omega))) : Below w.heap.size w w4)
          have Z4 := hb.size
          have N4 : w3.heap.size ≤ w4.heap.size := (by first | with_reducible exact Z4 | (simp only [szA, szS, szD] at Z4; omega))
          clear Z4
          have Xp_4 := Lib.hid (below_at hb Xp_3.out)
          have Xres_4 := Lib.hid (below_at hb Xres_3.out)
          obtain ⟨ag0, pg0, ag2, pg2, rfl, ho0, hx0, ho2, hx2⟩ := ho_g
          have Og0_4 := Lib.hid (Own.mono (base' := w.heap.size) ho0 (by first | omega | (simp only [szA, szS, szD, World.heap_drewN] at * <;> omega))); clear ho0 hx0
          have Og2_4 := Lib.hid (Own.mono (base' := w.heap.size) ho2 (by first | omega | (simp only [szA, szS, szD, World.heap_drewN] at * <;> omega))); clear ho2 hx2
          clear hb
          obtain ⟨cp4_0, cp4_1, cp4_2, fp4_0, fp4_1, fp4_2⟩ := box3 Xp_4.out; have lp4 := heap_lt Xp_4.out
          obtain ⟨cres4_0, cres4_1, cres4_2, fres4_0, fres4_1, fres4_2⟩ := box3 Xres_4.out; have lres4 := heap_lt Xres_4.out
          have S4 : w.heap.size ≤ w4.heap.size := (by omega)
          clear cp3_0 cp3_1 cp3_2 fp3_0 fp3_1 fp3_2 cres3_0 cres3_1 cres3_2 fres3_0 fres3_1 fres3_2
          obtain ⟨w5, hw⟩ : ∃ x : World, x = (w4.alloc (.cells #[.slice ag0 c.readers.length pg0, .int .i64 c.writer, .slice ag2 c.q.length pg2] 30)) := ⟨_, rfl⟩
          have B5 := Lib.hid (show Below w.heap.size w w5 by rw [hw]; exact (Below.alloc B4.out (by first | omega | (simp only [szA, szS, szD, World.heap_drewN] at * <;> omega)) _))
          have N5 : w4.heap.size + 1 ≤ w5.heap.size := (by rw [hw]; simp only [szS, szA]; omega)
          have Og0_5 := Lib.hid (show Own w.heap.size 3 1 encI w5 (.slice ag0 c.readers.length pg0) c.readers by rw [hw]; exact (Og0_4.out.alloc _))
          have Og2_5 := Lib.hid (show Own w.heap.size 45 2 encW w5 (.slice ag2 c.q.length pg2) c.q by rw [hw]; exact (Og2_4.out.alloc _))
          have Xp_5 := Lib.hid (show w5.heap[w.heap.size]? = some (.cells #[.slice aP0 c.readers.length pP0, .int .i64 c.writer, .slice aP2 c.q.length pP2] 30 (0, 0)) by rw [hw]; exact (heap_up Xp_4.out))
          have Xres_5 := Lib.hid (show w5.heap[w.heap.size + 1]? = some (.cells #[.slice none 0 0, .int .i64 0, .slice none 0 0] 30 (0, 0)) by rw [hw]; exact (heap_up Xres_4.out))
          have Xout_5 := Lib.hid (show w5.heap[w4.heap.size]? = some (.cells #[.slice ag0 c.readers.length pg0, .int .i64 c.writer, .slice ag2 c.q.length pg2] 30 (0, 0)) by rw [hw]; exact (heap_at' (n := w4.heap.size) (by first | omega | (simp only [szA, szS, szD, World.heap_drewN] at * <;> omega))))
          have Q5 := Lib.hid (show w5.heap.size = w4.heap.size + 1 by rw [hw]; simp only [szS, szA])
          have HW5 := Lib.hid hw; clear hw
          obtain ⟨cp5_0, cp5_1, cp5_2, fp5_0, fp5_1, fp5_2⟩ := box3 Xp_5.out; have lp5 := heap_lt Xp_5.out
          obtain ⟨cres5_0, cres5_1, cres5_2, fres5_0, fres5_1, fres5_2⟩ := box3 Xres_5.out; have lres5 := heap_lt Xres_5.out
          obtain ⟨cout5_0, cout5_1, cout5_2, fout5_0, fout5_1, fout5_2⟩ := box3 Xout_5.out; have lout5 := heap_lt Xout_5.out
          have S5 : w.heap.size ≤ w5.heap.size := (by omega)
          by_cases hq : 0 < c.q.length
          · have d1 := len_ne hq
            have d2 : decide ((0 : Int) < (c.q.length : Int)) = true := decide_eq_true (by omega)
            go_wp2_with (first | rw [← HW5.out] | (at_builtin; refine wpList_snoc _ encW_len one_want rfl _ _ 28 rfl 45 _ 16 Tryd.underlying28 info_Want rfl (by decide) w.heap.size (.slice ag2 c.q.length pg2) c.q rfl Og2_5.out (t, wb) _ rfl _ rfl (by first | omega | (have := Q5.out; omega)) (by decide) (by omega) (by first | omega | (have := Q5.out; omega)) ?_; intro ad6 cp6 w6 hown hg hat; have hqq := Q5.out; obtain ⟨g2L6, hg2L6⟩ : ∃ l, c.q ++ [(t, wb)] = l := ⟨_, rfl⟩; have lg2L6 : c.q.length + 1 = g2L6.length := (by rw [← hg2L6, List.length_append, List.length_singleton]); rw [hg2L6, lg2L6] at hown; rw [lg2L6]; have Hg2L6 := Lib.hid hg2L6; clear hg2L6; have Kg2L6 := Lib.hid lg2L6; clear lg2L6; rw [Kg2L6.out] at hat; clear hat; have Xp_6 := Lib.hid (grown_at2 hg (heap_up Xp_5.out) (Og2_5.out.ne Xp_5.out (by decide))); have Xres_6 := Lib.hid (grown_at2 hg (heap_up Xres_5.out) (Og2_5.out.ne Xres_5.out (by decide))); have Xout_6 := Lib.hid (grown_at2 hg (heap_up Xout_5.out) (Og2_5.out.ne Xout_5.out (by decide))); have Og0_6 := Lib.hid ((Og0_5.out.alloc _).apart hg (Own.apart_types Og2_5.out Og0_5.out (by decide))); have Og2_6 := Lib.hid hown; have B6 := Lib.hid (Below.grown (Below.alloc B5.out (by first | omega | (simp only [szA, szS, szD, World.heap_drewN] at * <;> omega)) _) hg (by first | omega | (simp only [szA, szS, szD, World.heap_drewN]; omega)) (fun g e => Nat.le_trans (by omega) (Og2_5.out.blk g e))); have N6 : w5.heap.size + 1 ≤ w6.heap.size := (by first | with_reducible exact hg.size | (have := hg.size; simp only [szA, szS, szD] at this; omega)); clear hown hg; obtain ⟨cp6_0, cp6_1, cp6_2, fp6_0, fp6_1, fp6_2⟩ := box3 Xp_6.out; have lp6 := heap_lt Xp_6.out; obtain ⟨cres6_0, cres6_1, cres6_2, fres6_0, fres6_1, fres6_2⟩ := box3 Xres_6.out; have lres6 := heap_lt Xres_6.out; obtain ⟨cout6_0, cout6_1, cout6_2, fout6_0, fout6_1, fout6_2⟩ := box3 Xout_6.out; have lout6 := heap_lt Xout_6.out; have S6 : w.heap.size ≤ w6.heap.size := (by omega); clear hqq))
            clear cp4_0 cp4_1 cp4_2 fp4_0 fp4_1 fp4_2 cres4_0 cres4_1 cres4_2 fres4_0 fres4_1 fres4_2 cp5_0 cp5_1 cp5_2 fp5_0 fp5_1 fp5_2 cres5_0 cres5_1 cres5_2 fres5_0 fres5_1 fres5_2 cout5_0 cout5_1 cout5_2 fout5_0 fout5_1 fout5_2
            have nn : w4.heap.size ≠ w.heap.size + 1 := by omega
            have nn2 := nn.symm
            go_wp2_with (fail)
            refine bodyPost_ret (v := .tuple #[.agg #[.slice ag0 c.readers.length pg0, .int .i64 c.writer, .slice ad6 g2L6.length cp6], .bool false, .bool true]) (by simp [results, Tryd.results49, go_sem, cres6_0, cres6_1, cres6_2, lres6, cout6_0, cout6_1, cout6_2, lout6, nn, nn2]) rfl ⟨_, ⟨c.readers, c.writer, g2L6⟩, _, _, rfl, LockOwn.make (sets3_own (Og0_6.out.setB (w4.heap.size) 2 Xout_6.out (by decide) (.slice ad6 g2L6.length cp6)) (set_off (a := ⟨w4.heap.size, 2, none⟩) Xres_6.out (by first | omega | (simp only [szA, szS, szD, World.heap_drewN] at * <;> omega)) (.slice ad6 g2L6.length cp6)) (by decide) (.slice ag0 c.readers.length pg0) (.int .i64 c.writer) (.slice ad6 g2L6.length cp6)) (sets3_own (Og2_6.out.setB (w4.heap.size) 2 Xout_6.out (by decide) (.slice ad6 g2L6.length cp6)) (set_off (a := ⟨w4.heap.size, 2, none⟩) Xres_6.out (by first | omega | (simp only [szA, szS, szD, World.heap_drewN] at * <;> omega)) (.slice ad6 g2L6.length cp6)) (by decide) (.slice ag0 c.readers.length pg0) (.int .i64 c.writer) (.slice ad6 g2L6.length cp6)) (Nat.le_refl _), by have := Kg2L6.out; have := HS.out; unfold LockShort; dsimp only; omega, (sets3_below (below_setAt B6.out (w4.heap.size) 2 (by first | omega | (simp only [szA, szS, szD, World.heap_drewN] at * <;> omega)) (.slice ad6 g2L6.length cp6)) (by first | omega | (simp only [szA, szS, szD, World.heap_drewN] at * <;> omega)) (.slice ag0 c.readers.length pg0) (.int .i64 c.writer) (.slice ad6 g2L6.length cp6))⟩
          · have d1 := len_eq hq
            have d2 : decide ((0 : Int) < (c.q.length : Int)) = false := decide_eq_false (by omega)
            go_wp2_with (first | rw [← HW5.out] | (at_builtin; refine wpList_snoc _ encW_len one_want rfl _ _ 28 rfl 45 _ 16 Tryd.underlying28 info_Want rfl (by decide) w.heap.size (.slice ag2 c.q.length pg2) c.q rfl Og2_5.out (t, wb) _ rfl _ rfl (by first | omega | (have := Q5.out; omega)) (by decide) (by omega) (by first | omega | (have := Q5.out; omega)) ?_; intro ad6 cp6 w6 hown hg hat; have hqq := Q5.out; obtain ⟨g2L6, hg2L6⟩ : ∃ l, c.q ++ [(t, wb)] = l := ⟨_, rfl⟩; have lg2L6 : c.q.length + 1 = g2L6.length := (by rw [← hg2L6, List.length_append, List.length_singleton]); rw [hg2L6, lg2L6] at hown; rw [lg2L6]; have Hg2L6 := Lib.hid hg2L6; clear hg2L6; have Kg2L6 := Lib.hid lg2L6; clear lg2L6; rw [Kg2L6.out] at hat; clear hat; have Xp_6 := Lib.hid (grown_at2 hg (heap_up Xp_5.out) (Og2_5.out.ne Xp_5.out (by decide))); have Xres_6 := Lib.hid (grown_at2 hg (heap_up Xres_5.out) (Og2_5.out.ne Xres_5.out (by decide))); have Xout_6 := Lib.hid (grown_at2 hg (heap_up Xout_5.out) (Og2_5.out.ne Xout_5.out (by decide))); have Og0_6 := Lib.hid ((Og0_5.out.alloc _).apart hg (Own.apart_types Og2_5.out Og0_5.out (by decide))); have Og2_6 := Lib.hid hown; have B6 := Lib.hid (Below.grown (Below.alloc B5.out (by first | omega | (simp only [szA, szS, szD, World.heap_drewN] at * <;> omega)) _) hg (by first | omega | (simp only [szA, szS, szD, World.heap_drewN]; omega)) (fun g e => Nat.le_trans (by omega) (Og2_5.out.blk g e))); have N6 : w5.heap.size + 1 ≤ w6.heap.size := (by first | with_reducible exact hg.size | (have := hg.size; simp only [szA, szS, szD] at this; omega)); clear hown hg; obtain ⟨cp6_0, cp6_1, cp6_2, fp6_0, fp6_1, fp6_2⟩ := box3 Xp_6.out; have lp6 := heap_lt Xp_6.out; obtain ⟨cres6_0, cres6_1, cres6_2, fres6_0, fres6_1, fres6_2⟩ := box3 Xres_6.out; have lres6 := heap_lt Xres_6.out; obtain ⟨cout6_0, cout6_1, cout6_2, fout6_0, fout6_1, fout6_2⟩ := box3 Xout_6.out; have lout6 := heap_lt Xout_6.out; have S6 : w.heap.size ≤ w6.heap.size := (by omega); clear hqq))
            clear cp4_0 cp4_1 cp4_2 fp4_0 fp4_1 fp4_2 cres4_0 cres4_1 cres4_2 fres4_0 fres4_1 fres4_2 cp5_0 cp5_1 cp5_2 fp5_0 fp5_1 fp5_2 cres5_0 cres5_1 cres5_2 fres5_0 fres5_1 fres5_2 cout5_0 cout5_1 cout5_2 fout5_0 fout5_1 fout5_2
            go_wp2_with (fail)
            refine (l4Give_calls _ ⟨c.readers, c.writer, g2L6⟩ _ ⟨_, _, _, _, rfl, Own.row encI_len (Og0_6.out.setB (w4.heap.size) 2 Xout_6.out (by decide) (.slice ad6 g2L6.length cp6)), Own.row encW_len (Og2_6.out.setB (w4.heap.size) 2 Xout_6.out (by decide) (.slice ad6 g2L6.length cp6))⟩ (by have := Kg2L6.out; have := HS.out; dsimp only; omega)).mono ?_
            rintro e w7 ⟨vr, vu, r, g, rfl, ho_r, hu, l1, l2, l3, hb⟩
            have B7 := Lib.hid (Below.trans (below_setAt B6.out (w4.heap.size) 2 (by first | omega | (simp only [szA, szS, szD, World.heap_drewN] at * <;> omega)) (.slice ad6 g2L6.length cp6)) (hb.mono (by first | omega | (simp only [szA, szS, szD, World.heap_drewN] at * <;> omega))) : Below w.heap.size w w7)
            have Z7 := hb.size
            have N7 : w6.heap.size ≤ w7.heap.size := (by first | with_reducible exact Z7 | (simp only [szA, szS, szD] at Z7; omega))
            clear Z7
            have Xp_7 := Lib.hid (below_at hb (set_off (a := ⟨w4.heap.size, 2, none⟩) Xp_6.out (by first | omega | (simp only [szA, szS, szD, World.heap_drewN] at * <;> omega)) (.slice ad6 g2L6.length cp6)))
            have Xres_7 := Lib.hid (below_at hb (set_off (a := ⟨w4.heap.size, 2, none⟩) Xres_6.out (by first | omega | (simp only [szA, szS, szD, World.heap_drewN] at * <;> omega)) (.slice ad6 g2L6.length cp6)))
            have Xout_7 := Lib.hid (below_at hb (set_at (a := ⟨w4.heap.size, 2, none⟩) Xout_6.out rfl rfl (.slice ad6 g2L6.length cp6)))
            have Og0_7 := Lib.hid ((Og0_6.out.setB (w4.heap.size) 2 Xout_6.out (by decide) (.slice ad6 g2L6.length cp6)).kept hb)
            have Og2_7 := Lib.hid ((Og2_6.out.setB (w4.heap.size) 2 Xout_6.out (by decide) (.slice ad6 g2L6.length cp6)).kept hb)
            have Or_7 := Lib.hid (ho_r.mono (lo' := w.heap.size) (by first | omega | (simp only [szA, szS, szD, World.heap_drewN] at * <;> omega)) (Nat.le_refl _)); obtain ⟨ar0, pr0, ar2, pr2, rfl, hx_r⟩ := ho_r; clear hx_r
            clear hb
            obtain ⟨cp7_0, cp7_1, cp7_2, fp7_0, fp7_1, fp7_2⟩ := box3 Xp_7.out; have lp7 := heap_lt Xp_7.out
            obtain ⟨cres7_0, cres7_1, cres7_2, fres7_0, fres7_1, fres7_2⟩ := box3 Xres_7.out; have lres7 := heap_lt Xres_7.out
            obtain ⟨cout7_0, cout7_1, cout7_2, fout7_0, fout7_1, fout7_2⟩ := box3 Xout_7.out; have lout7 := heap_lt Xout_7.out
            have S7 : w.heap.size ≤ w7.heap.size := (by omega)
            clear cp6_0 cp6_1 cp6_2 fp6_0 fp6_1 fp6_2 cres6_0 cres6_1 cres6_2 fres6_0 fres6_1 fres6_2 cout6_0 cout6_1 cout6_2 fout6_0 fout6_1 fout6_2
            dsimp only at l1 l2 l3
            obtain ⟨au, pu, rfl, _⟩ := hu
            have LL := Lib.hid (show LockShort r by have := Kg2L6.out; have := HS.out; unfold LockShort; omega)
            clear l1 l2
            have nn : w7.heap.size ≠ w.heap.size + 1 := by omega
            have nn2 := nn.symm
            go_wp2_with (fail)
            refine bodyPost_ret (v := .tuple #[.agg #[.slice ar0 r.readers.length pr0, .int .i64 r.writer, .slice ar2 r.q.length pr2], .bool (decide ((0 : Int) < (g.length : Int))), .bool true]) (by simp [results, Tryd.results49, go_sem, cres7_0, cres7_1, cres7_2, lres7, nn, nn2]) rfl ⟨_, r, _, _, rfl, ((Or_7.out.grownX (sets3_grown _ (w.heap.size + 1) (.slice ar0 r.readers.length pr0) (.int .i64 r.writer) (.slice ar2 r.q.length pr2)) Xres_7.out (by decide)).alloc _).mono (by first | omega | (simp only [szA, szS, szD, World.heap_drewN] at * <;> omega)) (by first | omega | (simp only [szA, szS, szD, World.heap_drewN] at * <;> omega)), LL.out, (Below.alloc (sets3_below B7.out (by first | omega | (simp only [szA, szS, szD, World.heap_drewN] at * <;> omega)) (.slice ar0 r.readers.length pr0) (.int .i64 r.writer) (.slice ar2 r.q.length pr2)) (by first | omega | (simp only [szA, szS, szD, World.heap_drewN] at * <;> omega)) _)⟩
      · clear hh
        go_wp2_with (fail)
        refine bodyPost_ret (v := .tuple #[.agg #[.slice none 0 0, .int .i64 0, .slice none 0 0], .bool false, .bool false]) (by simp [results, Tryd.results49, go_sem, cres2_0, cres2_1, cres2_2, lres2]) rfl ⟨_, _, _, _, rfl, LockOwn.nils, by simp [LockShort], (sets3_below B2.out (by first | omega | (simp only [szA, szS, szD, World.heap_drewN] at * <;> omega)) (.slice none 0 0) (.int .i64 0) (.slice none 0 0))⟩
end Go.Proofs.YtbnfhnfnbhigoaaDoor
