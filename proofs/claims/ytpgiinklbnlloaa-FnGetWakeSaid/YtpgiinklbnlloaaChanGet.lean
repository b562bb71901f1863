/- impl.GetChan (made by gen_chan.py). -/
import Derived.Test.YtpgiinklbnlloaaChanGetS
import Derived.Test.YtpgiinklbnlloaaStep
import Derived.Test.YtpgiinklbnlloaaStepFn
import Derived.Test.YtpgiinklbnlloaaChanClone
import Derived.Deep.RegionLaw
namespace Go.Proofs.Ytpgiinklbnlloaa
open Go.RowKit
set_option linter.unusedSimpArgs false
set_option linter.unusedVariables false
set_option maxHeartbeats 8000000 in
theorem GetChanO (v : Value) (c : ChanD) (t : Int) (r : ChanD) (x s1 : Int) (y : List Int) (b1 : Bool) (w : World) (h : ChanRow w v c) (hn : c.items.length + c.senders.length + c.getters.length ≤ 1048576) (hr : getC c t = (r, x, s1, y, b1)) :
    Calls Try.prog 38 #[v, .int .i64 t] w fun e w' => ∃ v' u', e = .returned (.tuple #[v', .int .i64 x, .int .i64 s1, u', .bool b1]) ∧ ChanOwn w.heap.size w'.heap.size w' v' r ∧ LOwn w.heap.size w'.heap.size w' u' y ∧ Below w.heap.size w w' := by
  have HP := Lib.hid h
  obtain ⟨aP1, pP1, aP2, pP2, aP3, pP3, rfl, hr1, hr2, hr3⟩ := h
  have HI1 := Lib.hid hr1; have HI2 := Lib.hid hr2; have HI3 := Lib.hid hr3; clear hr1 hr2 hr3
  have HR := Lib.hid hr; clear hr
  go_enter Try.func38, Try.ntmps38
  go_wp2_with (fail)
  refine (ChanValid_calls _ c _ (ChanRow.below HP.out (Below.alloc (Below.alloc (Below.refl _ _) (by first | omega | (simp only [szA, szS, szD, World.heap_drewN] at * <;> omega)) _) (by first | omega | (simp only [szA, szS, szD, World.heap_drewN] at * <;> omega)) _)) hn).mono ?_
  rintro e w1 ⟨rfl, hb⟩
  have B1 := Lib.hid (Below.trans (Below.alloc (Below.alloc (Below.refl _ _) (by first | omega | (simp only [szA, szS, szD, World.heap_drewN] at * <;> omega)) _) (by first | omega | (simp only [szA, szS, szD, World.heap_drewN] at * <;> omega)) _) (hb.mono (by first | omega | (simp only [szA, szS, szD, World.heap_drewN] at * <;> omega))) : Below w.heap.size w w1)
  have Z1 := hb.size
  have N1 : w.heap.size + 2 ≤ w1.heap.size := (by first | with_reducible exact Z1 | (simp only [szA, szS, szD] at Z1; omega))
  clear Z1
  have Xp_1 : Hid (w1.heap[w.heap.size]? = some (.cells #[.int .i64 c.room, .slice aP1 c.items.length pP1, .slice aP2 c.senders.length pP2, .slice aP3 c.getters.length pP3, .bool c.closed] 25 (0, 0))) := below_at hb (heap_up (heap_at' (n := w.heap.size) (by first | omega | (simp only [szA, szS, szD, World.heap_drewN] at * <;> omega))))
  have Xres_1 : Hid (w1.heap[w.heap.size + 1]? = some (.cells #[.int .i64 0, .slice none 0 0, .slice none 0 0, .slice none 0 0, .bool false] 25 (0, 0))) := below_at hb (heap_at' (n := w.heap.size + 1) (by first | omega | (simp only [szA, szS, szD, World.heap_drewN] at * <;> omega)))
  clear hb
  obtain ⟨cp1_0, cp1_1, cp1_2, cp1_3, cp1_4, fp1_0, fp1_1, fp1_2, fp1_3, fp1_4⟩ := box5 Xp_1.out; have lp1 := heap_lt Xp_1.out
  obtain ⟨cres1_0, cres1_1, cres1_2, cres1_3, cres1_4, fres1_0, fres1_1, fres1_2, fres1_3, fres1_4⟩ := box5 Xres_1.out; have lres1 := heap_lt Xres_1.out
  have S1 : w.heap.size ≤ w1.heap.size := (by omega)
  cases hv : chanB c
  · have HV := Lib.hid hv; clear hv
    obtain ⟨rfl, rfl, rfl, rfl, rfl⟩ := get_no HR.out (by simp [getOk, HV.out])
    go_wp2_with (fail)
    refine bodyPost_ret (v := .tuple #[.agg #[.int .i64 0, .slice none 0 0, .slice none 0 0, .slice none 0 0, .bool false], .int .i64 0, .int .i64 0, .slice none 0 0, .bool false]) (by simp [results, Try.results38, go_sem, cres1_0, cres1_1, cres1_2, cres1_3, cres1_4, lres1]) rfl ⟨_, _, rfl, ChanOwn.nils, LOwn.none, (sets5_below B1.out (by first | omega | (simp only [szA, szS, szD, World.heap_drewN] at * <;> omega)) (.int .i64 0) (.slice none 0 0) (.slice none 0 0) (.slice none 0 0) (.bool false))⟩
  · have HV := Lib.hid hv; obtain ⟨m1, m2⟩ := (chanB_true.1 hv).small; clear hv
    go_wp2_with (fail)
    refine (isThread_calls t _).mono ?_
    rintro e w' ⟨rfl, rfl⟩
    cases ht : thrB t
    · have HT := Lib.hid ht; clear ht
      obtain ⟨rfl, rfl, rfl, rfl, rfl⟩ := get_no HR.out (by simp [getOk, HT.out])
      go_wp2_with (fail)
      refine bodyPost_ret (v := .tuple #[.agg #[.int .i64 0, .slice none 0 0, .slice none 0 0, .slice none 0 0, .bool false], .int .i64 0, .int .i64 0, .slice none 0 0, .bool false]) (by simp [results, Try.results38, go_sem, cres1_0, cres1_1, cres1_2, cres1_3, cres1_4, lres1]) rfl ⟨_, _, rfl, ChanOwn.nils, LOwn.none, (sets5_below B1.out (by first | omega | (simp only [szA, szS, szD, World.heap_drewN] at * <;> omega)) (.int .i64 0) (.slice none 0 0) (.slice none 0 0) (.slice none 0 0) (.bool false))⟩
    · have HT := Lib.hid ht; clear ht
      go_wp2_with (fail)
      refine (threads_calls _ c _ (ChanRow.below HP.out B1.out) hn).mono ?_
      rintro e w2 ⟨vz, rfl, ho_z, hb⟩
      have B2 := Lib.hid (Below.trans B1.out (hb.mono (by first | omega | (simp only [szA, szS, szD, World.heap_drewN] at * <;> omega))) : Below w.heap.size w w2)
      have Z2 := hb.size
      have N2 : w1.heap.size ≤ w2.heap.size := (by first | with_reducible exact Z2 | (simp only [szA, szS, szD] at Z2; omega))
      clear Z2
      have Xp_2 := Lib.hid (below_at hb Xp_1.out)
      have Xres_2 := Lib.hid (below_at hb Xres_1.out)
      have Oz_2 := Lib.hid (Own.mono (base' := w.heap.size) ho_z.own (by first | omega | (simp only [szA, szS, szD, World.heap_drewN] at * <;> omega))); obtain ⟨az, pz, rfl, hx_z⟩ := ho_z; clear hx_z
      clear hb
      obtain ⟨cp2_0, cp2_1, cp2_2, cp2_3, cp2_4, fp2_0, fp2_1, fp2_2, fp2_3, fp2_4⟩ := box5 Xp_2.out; have lp2 := heap_lt Xp_2.out
      obtain ⟨cres2_0, cres2_1, cres2_2, cres2_3, cres2_4, fres2_0, fres2_1, fres2_2, fres2_3, fres2_4⟩ := box5 Xres_2.out; have lres2 := heap_lt Xres_2.out
      have S2 : w.heap.size ≤ w2.heap.size := (by omega)
      clear cp1_0 cp1_1 cp1_2 cp1_3 cp1_4 fp1_0 fp1_1 fp1_2 fp1_3 fp1_4 cres1_0 cres1_1 cres1_2 cres1_3 cres1_4 fres1_0 fres1_1 fres1_2 fres1_3 fres1_4
      go_wp2_with (fail)
      refine (ContainsI_calls _ (chanThr c) t _ (Oz_2.out.row encI_len)).mono ?_
      rintro e w' ⟨rfl, rfl⟩
      by_cases hin : t ∈ chanThr c
      · rw [decide_eq_true hin]
        have HI := Lib.hid hin; clear hin
        obtain ⟨rfl, rfl, rfl, rfl, rfl⟩ := get_no HR.out (by simp [getOk, HI.out])
        go_wp2_with (fail)
        refine bodyPost_ret (v := .tuple #[.agg #[.int .i64 0, .slice none 0 0, .slice none 0 0, .slice none 0 0, .bool false], .int .i64 0, .int .i64 0, .slice none 0 0, .bool false]) (by simp [results, Try.results38, go_sem, cres2_0, cres2_1, cres2_2, cres2_3, cres2_4, lres2]) rfl ⟨_, _, rfl, ChanOwn.nils, LOwn.none, (sets5_below B2.out (by first | omega | (simp only [szA, szS, szD, World.heap_drewN] at * <;> omega)) (.int .i64 0) (.slice none 0 0) (.slice none 0 0) (.slice none 0 0) (.bool false))⟩
      · rw [decide_eq_false hin]
        have HO := Lib.hid (show getOk c t = true by simp [getOk, HV.out, HT.out, hin]); clear hin HV HT
        go_wp2_with (fail)
        refine (chanClone_calls _ c _ (ChanRow.below HP.out B2.out) hn).mono ?_
        rintro e w3 ⟨vg, rfl, ho_g, hb⟩
        have B3 := Lib.hid (Below.trans B2.out (hb.mono (by first | omega | (simp only [szA, szS, szD, World.heap_drewN] at * <;> omega))) : Below w.heap.size w w3)
        have Z3 := hb.size
        have N3 : w2.heap.size ≤ w3.heap.size := (by first | with_reducible exact Z3 | (simp only [szA, szS, szD] at Z3; omega))
        clear Z3
        have Xp_3 := Lib.hid (below_at hb Xp_2.out)
        have Xres_3 := Lib.hid (below_at hb Xres_2.out)
        obtain ⟨ag1, pg1, ag2, pg2, ag3, pg3, rfl, ho1, hx1, ho2, hx2, ho3, hx3, ap13⟩ := ho_g
        have Og1_3 := Lib.hid (Own.mono (base' := w.heap.size) ho1 (by first | omega | (simp only [szA, szS, szD, World.heap_drewN] at * <;> omega))); clear ho1 hx1
        have Og2_3 := Lib.hid (Own.mono (base' := w.heap.size) ho2 (by first | omega | (simp only [szA, szS, szD, World.heap_drewN] at * <;> omega))); clear ho2 hx2
        have Og3_3 := Lib.hid (Own.mono (base' := w.heap.size) ho3 (by first | omega | (simp only [szA, szS, szD, World.heap_drewN] at * <;> omega))); clear ho3 hx3
        have APg13 := Lib.hid ap13; clear ap13
        clear hb
        obtain ⟨cp3_0, cp3_1, cp3_2, cp3_3, cp3_4, fp3_0, fp3_1, fp3_2, fp3_3, fp3_4⟩ := box5 Xp_3.out; have lp3 := heap_lt Xp_3.out
        obtain ⟨cres3_0, cres3_1, cres3_2, cres3_3, cres3_4, fres3_0, fres3_1, fres3_2, fres3_3, fres3_4⟩ := box5 Xres_3.out; have lres3 := heap_lt Xres_3.out
        have S3 : w.heap.size ≤ w3.heap.size := (by omega)
        clear cp2_0 cp2_1 cp2_2 cp2_3 cp2_4 fp2_0 fp2_1 fp2_2 fp2_3 fp2_4 cres2_0 cres2_1 cres2_2 cres2_3 cres2_4 fres2_0 fres2_1 fres2_2 fres2_3 fres2_4
        obtain ⟨w4, hw⟩ : ∃ x : World, x = (((((w3.setCell ⟨w.heap.size, 0, none⟩ (.int .i64 c.room)).setCell ⟨w.heap.size, 1, none⟩ (.slice ag1 c.items.length pg1)).setCell ⟨w.heap.size, 2, none⟩ (.slice ag2 c.senders.length pg2)).setCell ⟨w.heap.size, 3, none⟩ (.slice ag3 c.getters.length pg3)).setCell ⟨w.heap.size, 4, none⟩ (.bool c.closed)) := ⟨_, rfl⟩
        have B4 := Lib.hid (show Below w.heap.size w w4 by rw [hw]; exact (sets5_below B3.out (by first | omega | (simp only [szA, szS, szD, World.heap_drewN] at * <;> omega)) (.int .i64 c.room) (.slice ag1 c.items.length pg1) (.slice ag2 c.senders.length pg2) (.slice ag3 c.getters.length pg3) (.bool c.closed)))
        have N4 : w3.heap.size ≤ w4.heap.size := (by rw [hw]; simp only [szS, szA]; omega)
        have Og1_4 := Lib.hid (show Own w.heap.size 3 1 encI w4 (.slice ag1 c.items.length pg1) c.items by rw [hw]; exact (sets5_own Og1_3.out Xp_3.out (by decide) (.int .i64 c.room) (.slice ag1 c.items.length pg1) (.slice ag2 c.senders.length pg2) (.slice ag3 c.getters.length pg3) (.bool c.closed)))
        have Og2_4 := Lib.hid (show Own w.heap.size 58 2 encP w4 (.slice ag2 c.senders.length pg2) c.senders by rw [hw]; exact (sets5_own Og2_3.out Xp_3.out (by decide) (.int .i64 c.room) (.slice ag1 c.items.length pg1) (.slice ag2 c.senders.length pg2) (.slice ag3 c.getters.length pg3) (.bool c.closed)))
        have Og3_4 := Lib.hid (show Own w.heap.size 3 1 encI w4 (.slice ag3 c.getters.length pg3) c.getters by rw [hw]; exact (sets5_own Og3_3.out Xp_3.out (by decide) (.int .i64 c.room) (.slice ag1 c.items.length pg1) (.slice ag2 c.senders.length pg2) (.slice ag3 c.getters.length pg3) (.bool c.closed)))
        have Xp_4 := Lib.hid (show w4.heap[w.heap.size]? = some (.cells #[.int .i64 c.room, .slice ag1 c.items.length pg1, .slice ag2 c.senders.length pg2, .slice ag3 c.getters.length pg3, .bool c.closed] 25 (0, 0)) by rw [hw]; exact (sets5_at Xp_3.out (.int .i64 c.room) (.slice ag1 c.items.length pg1) (.slice ag2 c.senders.length pg2) (.slice ag3 c.getters.length pg3) (.bool c.closed)))
        have Xres_4 := Lib.hid (show w4.heap[w.heap.size + 1]? = some (.cells #[.int .i64 0, .slice none 0 0, .slice none 0 0, .slice none 0 0, .bool false] 25 (0, 0)) by rw [hw]; exact (sets5_off Xres_3.out (by first | omega | (simp only [szA, szS, szD, World.heap_drewN] at * <;> omega)) (.int .i64 c.room) (.slice ag1 c.items.length pg1) (.slice ag2 c.senders.length pg2) (.slice ag3 c.getters.length pg3) (.bool c.closed)))
        have Q4 := Lib.hid (show w4.heap.size = w3.heap.size by rw [hw]; simp only [szS, szA])
        have HW4 := Lib.hid hw; clear hw
        obtain ⟨cp4_0, cp4_1, cp4_2, cp4_3, cp4_4, fp4_0, fp4_1, fp4_2, fp4_3, fp4_4⟩ := box5 Xp_4.out; have lp4 := heap_lt Xp_4.out
        obtain ⟨cres4_0, cres4_1, cres4_2, cres4_3, cres4_4, fres4_0, fres4_1, fres4_2, fres4_3, fres4_4⟩ := box5 Xres_4.out; have lres4 := heap_lt Xres_4.out
        have S4 : w.heap.size ≤ w4.heap.size := (by omega)
        by_cases hq : 0 < c.senders.length
        · have d1 := len_ne hq
          obtain ⟨sy, shy⟩ := get_ex hq
          obtain ⟨ss, shs⟩ : ∃ ys, c.senders.drop 1 = ys := ⟨_, rfl⟩
          have shl : c.senders.length - 1 = ss.length := by rw [← shs]; simp
          have shn : ss.length ≤ 10 := by omega
          have sRW := Own.row encP_len Og2_4.out
          obtain ⟨sb, so, sab, slt, sc⟩ := prow_at sRW hq
          subst sab
          have sc0 := sc 0 sy shy
          simp only [Nat.zero_mul, Nat.add_zero] at sc0
          have sT0 := row_rest sRW hq
          rw [shs, shl] at sT0
          obtain ⟨sA, shA⟩ : ∃ A : Addr, (if pg2 = 1 then (some (⟨sb, so, none⟩ : Addr)) else some ⟨sb, so + 2, none⟩) = some A := by split <;> exact ⟨_, rfl⟩
          rw [shA] at sT0
          have scap := prow_cap sRW
          have sk1 : (1 : Int) ≤ (c.senders.length : Int) := by omega
          have sk2 : 1 ≤ c.senders.length := by omega
          have sk3 : (1 : Int) ≤ (pg2 : Int) := by omega
          have sk4 : 1 ≤ pg2 := by omega
          have sk5 : (c.senders.length : Int) ≤ (pg2 : Int) := by omega
          have sHS := Lib.hid shs; have sHY := Lib.hid shy; have sT := Lib.hid sT0; clear sc shy shs sT0 sRW
          have sbn_p : sb ≠ w.heap.size := fun e => Og2_4.out.ne Xp_4.out (by decide) (congrArg some e); have sbm_p := sbn_p.symm
          have sbn_res : sb ≠ w.heap.size + 1 := fun e => Og2_4.out.ne Xres_4.out (by decide) (congrArg some e); have sbm_res := sbn_res.symm
          obtain ⟨sc1, sc2⟩ := sc0
          go_wp2_with (rw [← HW4.out])
          go_region_law ((refine step_push _ encI_len encI_one rfl _ _ 22 rfl 3 _ 8 Try.underlying22 info_int rfl (by decide) w.heap.size (.slice ag1 c.items.length pg1) c.items (by simp [Act.eval, Act.put]) (Own.drewN (Og1_4.out.alloc _) 1) (by first | omega | (simp only [szA, szD]; omega)) (.slice (some ⟨w4.heap.size, 0, none⟩) 1 1) [sy.2] (by simp [Act.eval, Act.put]) (Own.row encI_len (Own.litI (base := w.heap.size) (heap_at w4 _) (by omega))) (by simp) (by decide) (by simp only [List.length_cons, List.length_nil]; omega) ?_; intro ad5 cp5 w5 hown hg hat; obtain ⟨g1L5, hg1L5⟩ : ∃ l, c.items ++ [sy.2] = l := ⟨_, rfl⟩; have lg1L5 : c.items.length + [sy.2].length = g1L5.length := (by rw [← hg1L5, List.length_append]); rw [hg1L5, lg1L5] at hown; rw [lg1L5] at hat; rw [lg1L5]; have Hg1L5 := Lib.hid hg1L5; clear hg1L5; have Kg1L5 := Lib.hid (show c.items.length + 1 = g1L5.length from lg1L5); clear lg1L5; have ANg1_g3_5 := Lib.hid (Apart.push (v' := .slice ad5 g1L5.length cp5) APg13.out hat (Own.drewN (Og3_4.out.alloc _) 1).hi (Nat.le_refl _)); clear hat; have Xp_5 := Lib.hid (grown_at2 hg (heap_drew (heap_up Xp_4.out)) (Og1_4.out.ne Xp_4.out (by decide))); have Xres_5 := Lib.hid (grown_at2 hg (heap_drew (heap_up Xres_4.out)) (Og1_4.out.ne Xres_4.out (by decide))); have Og2_5 := Lib.hid ((Own.drewN (Og2_4.out.alloc _) 1).apart hg (Own.apart_types Og1_4.out Og2_4.out (by decide))); have Og3_5 := Lib.hid ((Own.drewN (Og3_4.out.alloc _) 1).apart hg APg13.out); have Og1_5 := Lib.hid hown; have B5 := Lib.hid (Below.grown (Below.alloc B4.out (by first | omega | (simp only [szA, szS, szD, World.heap_drewN] at * <;> omega)) _).drew hg (by first | omega | (simp only [szA, szS, szD, World.heap_drewN]; omega)) (fun g e => Nat.le_trans (by omega) (Og1_4.out.blk g e))); have N5 : w4.heap.size + 1 ≤ w5.heap.size := (by first | with_reducible exact hg.size | (have := hg.size; simp only [szA, szS, szD] at this; omega)); clear hown hg; obtain ⟨cp5_0, cp5_1, cp5_2, cp5_3, cp5_4, fp5_0, fp5_1, fp5_2, fp5_3, fp5_4⟩ := box5 Xp_5.out; have lp5 := heap_lt Xp_5.out; obtain ⟨cres5_0, cres5_1, cres5_2, cres5_3, cres5_4, fres5_0, fres5_1, fres5_2, fres5_3, fres5_4⟩ := box5 Xres_5.out; have lres5 := heap_lt Xres_5.out; have S5 : w.heap.size ≤ w5.heap.size := (by omega)))
          all_goals
            clear cp3_0 cp3_1 cp3_2 cp3_3 cp3_4 fp3_0 fp3_1 fp3_2 fp3_3 fp3_4 cres3_0 cres3_1 cres3_2 cres3_3 cres3_4 fres3_0 fres3_1 fres3_2 fres3_3 fres3_4 cp4_0 cp4_1 cp4_2 cp4_3 cp4_4 fp4_0 fp4_1 fp4_2 fp4_3 fp4_4 cres4_0 cres4_1 cres4_2 cres4_3 cres4_4 fres4_0 fres4_1 fres4_2 fres4_3 fres4_4
            have hzl : g1L5.length ≤ 10 := by have := Kg1L5.out; omega
            have lt : 0 < g1L5.length := by have := Kg1L5.out; omega
            have d2 := len_ne lt
            obtain ⟨w6, hw⟩ : ∃ x : World, x = (w5.setCell ⟨w.heap.size, 1, none⟩ (.slice ad5 g1L5.length cp5)) := ⟨_, rfl⟩
            have B6 := Lib.hid (show Below w.heap.size w w6 by rw [hw]; exact (below_setAt B5.out (w.heap.size) 1 (by first | omega | (simp only [szA, szS, szD, World.heap_drewN] at * <;> omega)) (.slice ad5 g1L5.length cp5)))
            have N6 : w5.heap.size ≤ w6.heap.size := (by rw [hw]; simp only [szS, szA]; omega)
            have Og1_6 := Lib.hid (show Own w.heap.size 3 1 encI w6 (.slice ad5 g1L5.length cp5) g1L5 by rw [hw]; exact (Og1_5.out.setB (w.heap.size) 1 Xp_5.out (by decide) (.slice ad5 g1L5.length cp5)))
            have Og2_6 := Lib.hid (show Own w.heap.size 58 2 encP w6 (.slice (some ⟨sb, so, none⟩) c.senders.length pg2) c.senders by rw [hw]; exact (Og2_5.out.setB (w.heap.size) 1 Xp_5.out (by decide) (.slice ad5 g1L5.length cp5)))
            have Og3_6 := Lib.hid (show Own w.heap.size 3 1 encI w6 (.slice ag3 c.getters.length pg3) c.getters by rw [hw]; exact (Og3_5.out.setB (w.heap.size) 1 Xp_5.out (by decide) (.slice ad5 g1L5.length cp5)))
            have Xp_6 := Lib.hid (show w6.heap[w.heap.size]? = some (.cells #[.int .i64 c.room, .slice ad5 g1L5.length cp5, .slice (some ⟨sb, so, none⟩) c.senders.length pg2, .slice ag3 c.getters.length pg3, .bool c.closed] 25 (0, 0)) by rw [hw]; exact (set_at (a := ⟨w.heap.size, 1, none⟩) Xp_5.out rfl rfl (.slice ad5 g1L5.length cp5)))
            have Xres_6 := Lib.hid (show w6.heap[w.heap.size + 1]? = some (.cells #[.int .i64 0, .slice none 0 0, .slice none 0 0, .slice none 0 0, .bool false] 25 (0, 0)) by rw [hw]; exact (set_off (a := ⟨w.heap.size, 1, none⟩) Xres_5.out (by first | omega | (simp only [szA, szS, szD, World.heap_drewN] at * <;> omega)) (.slice ad5 g1L5.length cp5)))
            have Q6 := Lib.hid (show w6.heap.size = w5.heap.size by rw [hw]; simp only [szS, szA])
            have HW6 := Lib.hid hw; clear hw
            obtain ⟨cp6_0, cp6_1, cp6_2, cp6_3, cp6_4, fp6_0, fp6_1, fp6_2, fp6_3, fp6_4⟩ := box5 Xp_6.out; have lp6 := heap_lt Xp_6.out
            obtain ⟨cres6_0, cres6_1, cres6_2, cres6_3, cres6_4, fres6_0, fres6_1, fres6_2, fres6_3, fres6_4⟩ := box5 Xres_6.out; have lres6 := heap_lt Xres_6.out
            have S6 : w.heap.size ≤ w6.heap.size := (by omega)
            clear sc1 sc2
            obtain ⟨sb2, so2, sab2, slt2, sc3⟩ := prow_at (Own.row encP_len Og2_6.out) hq
            injection sab2 with sab2; injection sab2 with e5 e6 _; subst e5 e6
            have sc4 := sc3 0 sy sHY.out
            simp only [Nat.zero_mul, Nat.add_zero] at sc4
            obtain ⟨sc5, sc6⟩ := sc4
            clear sc3
            obtain ⟨iy, ihy⟩ := get_ex lt
            obtain ⟨is, ihs⟩ : ∃ ys, g1L5.drop 1 = ys := ⟨_, rfl⟩
            have ihl : g1L5.length - 1 = is.length := by rw [← ihs]; simp
            have ihn : is.length ≤ 10 := by omega
            have iRW := Own.row encI_len Og1_6.out
            obtain ⟨ib, io, iab, ilt, ic⟩ := irow_at iRW lt
            subst iab
            have ic0 := ic 0 iy ihy
            simp only [Nat.zero_mul, Nat.add_zero] at ic0
            have iT0 := row_rest iRW lt
            rw [ihs, ihl] at iT0
            obtain ⟨iA, ihA⟩ : ∃ A : Addr, (if cp5 = 1 then (some (⟨ib, io, none⟩ : Addr)) else some ⟨ib, io + 1, none⟩) = some A := by split <;> exact ⟨_, rfl⟩
            rw [ihA] at iT0
            have icap := irow_cap iRW
            have ik1 : (1 : Int) ≤ (g1L5.length : Int) := by omega
            have ik2 : 1 ≤ g1L5.length := by omega
            have ik3 : (1 : Int) ≤ (cp5 : Int) := by omega
            have ik4 : 1 ≤ cp5 := by omega
            have ik5 : (g1L5.length : Int) ≤ (cp5 : Int) := by omega
            have iHS := Lib.hid ihs; have iHY := Lib.hid ihy; have iT := Lib.hid iT0; clear ic ihy ihs iT0 iRW
            have ibn_p : ib ≠ w.heap.size := fun e => Og1_6.out.ne Xp_6.out (by decide) (congrArg some e); have ibm_p := ibn_p.symm
            have ibn_res : ib ≠ w.heap.size + 1 := fun e => Og1_6.out.ne Xres_6.out (by decide) (congrArg some e); have ibm_res := ibn_res.symm
            obtain ⟨e1, rfl, rfl, e4, rfl⟩ := get_send HR.out HO.out sHY.out Hg1L5.out iHY.out
            rw [iHS.out, sHS.out] at e1; have E4 := Lib.hid e4; clear e4
            have iT9 := row_rest (w := (((w6.setCell ⟨w.heap.size, 2, none⟩ (.slice (some sA) ss.length (pg2 - 1))).setCell ⟨w.heap.size, 1, none⟩ (.slice (some iA) is.length (cp5 - 1))).alloc (.cells #[.int .i64 sy.1] 3))) (Own.row encI_len (((Og1_6.out.setB (w.heap.size) 2 Xp_6.out (by decide) (.slice (some sA) ss.length (pg2 - 1))).setB (w.heap.size) 1 (set_at (a := ⟨w.heap.size, 2, none⟩) Xp_6.out rfl rfl (.slice (some sA) ss.length (pg2 - 1))) (by decide) (.slice (some iA) is.length (cp5 - 1))).alloc _)) lt
            rw [iHS.out, ihl, ihA] at iT9
            have sT9 := row_rest (w := (((w6.setCell ⟨w.heap.size, 2, none⟩ (.slice (some sA) ss.length (pg2 - 1))).setCell ⟨w.heap.size, 1, none⟩ (.slice (some iA) is.length (cp5 - 1))).alloc (.cells #[.int .i64 sy.1] 3))) (Own.row encP_len (((Og2_6.out.setB (w.heap.size) 2 Xp_6.out (by decide) (.slice (some sA) ss.length (pg2 - 1))).setB (w.heap.size) 1 (set_at (a := ⟨w.heap.size, 2, none⟩) Xp_6.out rfl rfl (.slice (some sA) ss.length (pg2 - 1))) (by decide) (.slice (some iA) is.length (cp5 - 1))).alloc _)) hq
            rw [sHS.out, shl, shA] at sT9
            have HRZ := Lib.hid e1; clear e1
            go_wp2_with (rw [← HW6.out])
            refine (chanClone_calls _ r _ (by rw [HRZ.out]; exact ⟨_, _, _, _, _, _, rfl, iT9, sT9, Own.row encI_len (((Og3_6.out.setB (w.heap.size) 2 Xp_6.out (by decide) (.slice (some sA) ss.length (pg2 - 1))).setB (w.heap.size) 1 (set_at (a := ⟨w.heap.size, 2, none⟩) Xp_6.out rfl rfl (.slice (some sA) ss.length (pg2 - 1))) (by decide) (.slice (some iA) is.length (cp5 - 1))).alloc _)⟩) (by rw [HRZ.out]; simp only []; omega)).mono ?_
            clear iT9 sT9
            rintro e w7 ⟨vr, rfl, ho_r, hb⟩
            have B7 := Lib.hid (Below.trans (Below.alloc (below_setAt (below_setAt B6.out (w.heap.size) 2 (by first | omega | (simp only [szA, szS, szD, World.heap_drewN] at * <;> omega)) (.slice (some sA) ss.length (pg2 - 1))) (w.heap.size) 1 (by first | omega | (simp only [szA, szS, szD, World.heap_drewN] at * <;> omega)) (.slice (some iA) is.length (cp5 - 1))) (by first | omega | (simp only [szA, szS, szD, World.heap_drewN] at * <;> omega)) _) (hb.mono (by first | omega | (simp only [szA, szS, szD, World.heap_drewN] at * <;> omega))) : Below w.heap.size w w7)
            have Z7 := hb.size
            have N7 : w6.heap.size + 1 ≤ w7.heap.size := (by first | with_reducible exact Z7 | (simp only [szA, szS, szD] at Z7; omega))
            clear Z7
            have Xp_7 := Lib.hid (below_at hb (heap_up (set_at (a := ⟨w.heap.size, 1, none⟩) (set_at (a := ⟨w.heap.size, 2, none⟩) Xp_6.out rfl rfl (.slice (some sA) ss.length (pg2 - 1))) rfl rfl (.slice (some iA) is.length (cp5 - 1)))))
            have Xres_7 := Lib.hid (below_at hb (heap_up (set_off (a := ⟨w.heap.size, 1, none⟩) (set_off (a := ⟨w.heap.size, 2, none⟩) Xres_6.out (by first | omega | (simp only [szA, szS, szD, World.heap_drewN] at * <;> omega)) (.slice (some sA) ss.length (pg2 - 1))) (by first | omega | (simp only [szA, szS, szD, World.heap_drewN] at * <;> omega)) (.slice (some iA) is.length (cp5 - 1)))))
            have Xlit_7 : Hid (w7.heap[w6.heap.size]? = some (.cells #[.int .i64 sy.1] 3 (0, 0))) := below_at hb (heap_at' (n := w6.heap.size) (by first | omega | (simp only [szA, szS, szD, World.heap_drewN] at * <;> omega)))
            have Og1_7 := Lib.hid ((((Og1_6.out.setB (w.heap.size) 2 Xp_6.out (by decide) (.slice (some sA) ss.length (pg2 - 1))).setB (w.heap.size) 1 (set_at (a := ⟨w.heap.size, 2, none⟩) Xp_6.out rfl rfl (.slice (some sA) ss.length (pg2 - 1))) (by decide) (.slice (some iA) is.length (cp5 - 1))).alloc _).kept hb)
            have Og2_7 := Lib.hid ((((Og2_6.out.setB (w.heap.size) 2 Xp_6.out (by decide) (.slice (some sA) ss.length (pg2 - 1))).setB (w.heap.size) 1 (set_at (a := ⟨w.heap.size, 2, none⟩) Xp_6.out rfl rfl (.slice (some sA) ss.length (pg2 - 1))) (by decide) (.slice (some iA) is.length (cp5 - 1))).alloc _).kept hb)
            have Og3_7 := Lib.hid ((((Og3_6.out.setB (w.heap.size) 2 Xp_6.out (by decide) (.slice (some sA) ss.length (pg2 - 1))).setB (w.heap.size) 1 (set_at (a := ⟨w.heap.size, 2, none⟩) Xp_6.out rfl rfl (.slice (some sA) ss.length (pg2 - 1))) (by decide) (.slice (some iA) is.length (cp5 - 1))).alloc _).kept hb)
            have Or_7 := Lib.hid (ho_r.mono (lo' := w.heap.size) (by first | omega | (simp only [szA, szS, szD, World.heap_drewN] at * <;> omega)) (Nat.le_refl _)); obtain ⟨ar1, pr1, ar2, pr2, ar3, pr3, rfl, hx_r⟩ := ho_r; clear hx_r
            clear hb
            obtain ⟨cp7_0, cp7_1, cp7_2, cp7_3, cp7_4, fp7_0, fp7_1, fp7_2, fp7_3, fp7_4⟩ := box5 Xp_7.out; have lp7 := heap_lt Xp_7.out
            obtain ⟨cres7_0, cres7_1, cres7_2, cres7_3, cres7_4, fres7_0, fres7_1, fres7_2, fres7_3, fres7_4⟩ := box5 Xres_7.out; have lres7 := heap_lt Xres_7.out
            have llit7 := heap_lt Xlit_7.out
            have S7 : w.heap.size ≤ w7.heap.size := (by omega)
            clear cp5_0 cp5_1 cp5_2 cp5_3 cp5_4 fp5_0 fp5_1 fp5_2 fp5_3 fp5_4 cres5_0 cres5_1 cres5_2 cres5_3 cres5_4 fres5_0 fres5_1 fres5_2 fres5_3 fres5_4 cp6_0 cp6_1 cp6_2 cp6_3 cp6_4 fp6_0 fp6_1 fp6_2 fp6_3 fp6_4 cres6_0 cres6_1 cres6_2 cres6_3 cres6_4 fres6_0 fres6_1 fres6_2 fres6_3 fres6_4
            go_wp2_with (fail)
            refine bodyPost_ret (v := .tuple #[.agg #[.int .i64 r.room, .slice ar1 r.items.length pr1, .slice ar2 r.senders.length pr2, .slice ar3 r.getters.length pr3, .bool r.closed], .int .i64 iy, .int .i64 1, .slice (some ⟨w6.heap.size, 0, none⟩) 1 1, .bool true]) (by simp [results, Try.results38, go_sem, cres7_0, cres7_1, cres7_2, cres7_3, cres7_4, lres7]) rfl ⟨_, _, rfl, (Or_7.out.grownX (sets5_grown _ (w.heap.size + 1) (.int .i64 r.room) (.slice ar1 r.items.length pr1) (.slice ar2 r.senders.length pr2) (.slice ar3 r.getters.length pr3) (.bool r.closed)) Xres_7.out (by decide)).mono (by first | omega | (simp only [szA, szS, szD, World.heap_drewN] at * <;> omega)) (by first | omega | (simp only [szA, szS, szD, World.heap_drewN] at * <;> omega)), LOwn.of (by rw [E4.out]; exact Own.litI (sets5_off Xlit_7.out (by first | omega | (simp only [szA, szS, szD, World.heap_drewN] at * <;> omega)) (.int .i64 r.room) (.slice ar1 r.items.length pr1) (.slice ar2 r.senders.length pr2) (.slice ar3 r.getters.length pr3) (.bool r.closed)) (by omega)) (Nat.le_refl _), (sets5_below B7.out (by first | omega | (simp only [szA, szS, szD, World.heap_drewN] at * <;> omega)) (.int .i64 r.room) (.slice ar1 r.items.length pr1) (.slice ar2 r.senders.length pr2) (.slice ar3 r.getters.length pr3) (.bool r.closed))⟩
        · have d1 := len_eq hq
          by_cases lt : 0 < c.items.length
          · have d2 := len_ne lt
            obtain ⟨iy, ihy⟩ := get_ex lt
            obtain ⟨is, ihs⟩ : ∃ ys, c.items.drop 1 = ys := ⟨_, rfl⟩
            have ihl : c.items.length - 1 = is.length := by rw [← ihs]; simp
            have ihn : is.length ≤ 10 := by omega
            have iRW := Own.row encI_len Og1_4.out
            obtain ⟨ib, io, iab, ilt, ic⟩ := irow_at iRW lt
            subst iab
            have ic0 := ic 0 iy ihy
            simp only [Nat.zero_mul, Nat.add_zero] at ic0
            have iT0 := row_rest iRW lt
            rw [ihs, ihl] at iT0
            obtain ⟨iA, ihA⟩ : ∃ A : Addr, (if pg1 = 1 then (some (⟨ib, io, none⟩ : Addr)) else some ⟨ib, io + 1, none⟩) = some A := by split <;> exact ⟨_, rfl⟩
            rw [ihA] at iT0
            have icap := irow_cap iRW
            have ik1 : (1 : Int) ≤ (c.items.length : Int) := by omega
            have ik2 : 1 ≤ c.items.length := by omega
            have ik3 : (1 : Int) ≤ (pg1 : Int) := by omega
            have ik4 : 1 ≤ pg1 := by omega
            have ik5 : (c.items.length : Int) ≤ (pg1 : Int) := by omega
            have iHS := Lib.hid ihs; have iHY := Lib.hid ihy; have iT := Lib.hid iT0; clear ic ihy ihs iT0 iRW
            have ibn_p : ib ≠ w.heap.size := fun e => Og1_4.out.ne Xp_4.out (by decide) (congrArg some e); have ibm_p := ibn_p.symm
            have ibn_res : ib ≠ w.heap.size + 1 := fun e => Og1_4.out.ne Xres_4.out (by decide) (congrArg some e); have ibm_res := ibn_res.symm
            obtain ⟨e1, rfl, rfl, rfl, rfl⟩ := get_item HR.out HO.out hq iHY.out
            rw [iHS.out] at e1
            have iT9 := row_rest (w := (w4.setCell ⟨w.heap.size, 1, none⟩ (.slice (some iA) is.length (pg1 - 1)))) (Own.row encI_len (Og1_4.out.setB (w.heap.size) 1 Xp_4.out (by decide) (.slice (some iA) is.length (pg1 - 1)))) lt
            rw [iHS.out, ihl, ihA] at iT9
            have sT9 := Own.row (w := (w4.setCell ⟨w.heap.size, 1, none⟩ (.slice (some iA) is.length (pg1 - 1)))) encP_len (Og2_4.out.setB (w.heap.size) 1 Xp_4.out (by decide) (.slice (some iA) is.length (pg1 - 1)))
            have HRZ := Lib.hid e1; clear e1
            go_wp2_with (rw [← HW4.out])
            refine (chanClone_calls _ r _ (by rw [HRZ.out]; exact ⟨_, _, _, _, _, _, rfl, iT9, sT9, Own.row encI_len (Og3_4.out.setB (w.heap.size) 1 Xp_4.out (by decide) (.slice (some iA) is.length (pg1 - 1)))⟩) (by rw [HRZ.out]; simp only []; omega)).mono ?_
            clear iT9 sT9
            rintro e w5 ⟨vr, rfl, ho_r, hb⟩
            have B5 := Lib.hid (Below.trans (below_setAt B4.out (w.heap.size) 1 (by first | omega | (simp only [szA, szS, szD, World.heap_drewN] at * <;> omega)) (.slice (some iA) is.length (pg1 - 1))) (hb.mono (by first | omega | (simp only [szA, szS, szD, World.heap_drewN] at * <;> omega))) : Below w.heap.size w w5)
            have Z5 := hb.size
            have N5 : w4.heap.size ≤ w5.heap.size := (by first | with_reducible exact Z5 | (simp only [szA, szS, szD] at Z5; omega))
            clear Z5
            have Xp_5 := Lib.hid (below_at hb (set_at (a := ⟨w.heap.size, 1, none⟩) Xp_4.out rfl rfl (.slice (some iA) is.length (pg1 - 1))))
            have Xres_5 := Lib.hid (below_at hb (set_off (a := ⟨w.heap.size, 1, none⟩) Xres_4.out (by first | omega | (simp only [szA, szS, szD, World.heap_drewN] at * <;> omega)) (.slice (some iA) is.length (pg1 - 1))))
            have Og1_5 := Lib.hid ((Og1_4.out.setB (w.heap.size) 1 Xp_4.out (by decide) (.slice (some iA) is.length (pg1 - 1))).kept hb)
            have Og2_5 := Lib.hid ((Og2_4.out.setB (w.heap.size) 1 Xp_4.out (by decide) (.slice (some iA) is.length (pg1 - 1))).kept hb)
            have Og3_5 := Lib.hid ((Og3_4.out.setB (w.heap.size) 1 Xp_4.out (by decide) (.slice (some iA) is.length (pg1 - 1))).kept hb)
            have Or_5 := Lib.hid (ho_r.mono (lo' := w.heap.size) (by first | omega | (simp only [szA, szS, szD, World.heap_drewN] at * <;> omega)) (Nat.le_refl _)); obtain ⟨ar1, pr1, ar2, pr2, ar3, pr3, rfl, hx_r⟩ := ho_r; clear hx_r
            clear hb
            obtain ⟨cp5_0, cp5_1, cp5_2, cp5_3, cp5_4, fp5_0, fp5_1, fp5_2, fp5_3, fp5_4⟩ := box5 Xp_5.out; have lp5 := heap_lt Xp_5.out
            obtain ⟨cres5_0, cres5_1, cres5_2, cres5_3, cres5_4, fres5_0, fres5_1, fres5_2, fres5_3, fres5_4⟩ := box5 Xres_5.out; have lres5 := heap_lt Xres_5.out
            have S5 : w.heap.size ≤ w5.heap.size := (by omega)
            clear cp3_0 cp3_1 cp3_2 cp3_3 cp3_4 fp3_0 fp3_1 fp3_2 fp3_3 fp3_4 cres3_0 cres3_1 cres3_2 cres3_3 cres3_4 fres3_0 fres3_1 fres3_2 fres3_3 fres3_4 cp4_0 cp4_1 cp4_2 cp4_3 cp4_4 fp4_0 fp4_1 fp4_2 fp4_3 fp4_4 cres4_0 cres4_1 cres4_2 cres4_3 cres4_4 fres4_0 fres4_1 fres4_2 fres4_3 fres4_4
            go_wp2_with (fail)
            refine bodyPost_ret (v := .tuple #[.agg #[.int .i64 r.room, .slice ar1 r.items.length pr1, .slice ar2 r.senders.length pr2, .slice ar3 r.getters.length pr3, .bool r.closed], .int .i64 iy, .int .i64 1, .slice none 0 0, .bool true]) (by simp [results, Try.results38, go_sem, cres5_0, cres5_1, cres5_2, cres5_3, cres5_4, lres5]) rfl ⟨_, _, rfl, (Or_5.out.grownX (sets5_grown _ (w.heap.size + 1) (.int .i64 r.room) (.slice ar1 r.items.length pr1) (.slice ar2 r.senders.length pr2) (.slice ar3 r.getters.length pr3) (.bool r.closed)) Xres_5.out (by decide)).mono (by first | omega | (simp only [szA, szS, szD, World.heap_drewN] at * <;> omega)) (by first | omega | (simp only [szA, szS, szD, World.heap_drewN] at * <;> omega)), LOwn.none, (sets5_below B5.out (by first | omega | (simp only [szA, szS, szD, World.heap_drewN] at * <;> omega)) (.int .i64 r.room) (.slice ar1 r.items.length pr1) (.slice ar2 r.senders.length pr2) (.slice ar3 r.getters.length pr3) (.bool r.closed))⟩
          · have d2 := len_eq lt
            obtain ⟨gn1, gn2⟩ := get_none HR.out HO.out hq lt
            have GN1 := Lib.hid gn1; have GN2 := Lib.hid gn2; clear gn1 gn2
            by_cases hcl : c.closed = true
            · have hcl2 := hcl; rw [hcl] at Xp_4 cp4_4
              have HCL := Lib.hid hcl2; clear hcl hcl2
              obtain ⟨rfl, rfl, rfl, rfl, rfl⟩ := GN1.out HCL.out
              go_wp2_with (rw [← HW4.out])
              refine bodyPost_ret (v := .tuple #[.agg #[.int .i64 c.room, .slice ag1 c.items.length pg1, .slice ag2 c.senders.length pg2, .slice ag3 c.getters.length pg3, .bool true], .int .i64 0, .int .i64 2, .slice none 0 0, .bool true]) (by simp [results, Try.results38, go_sem, cres4_0, cres4_1, cres4_2, cres4_3, cres4_4, lres4]) rfl ⟨_, _, rfl, by have h9 : ChanOwn _ _ _ (.agg #[.int .i64 c.room, .slice ag1 c.items.length pg1, .slice ag2 c.senders.length pg2, .slice ag3 c.getters.length pg3, .bool c.closed]) c := ChanOwn.make (sets5_own Og1_4.out Xres_4.out (by decide) (.int .i64 c.room) (.slice ag1 c.items.length pg1) (.slice ag2 c.senders.length pg2) (.slice ag3 c.getters.length pg3) (.bool true)) (sets5_own Og2_4.out Xres_4.out (by decide) (.int .i64 c.room) (.slice ag1 c.items.length pg1) (.slice ag2 c.senders.length pg2) (.slice ag3 c.getters.length pg3) (.bool true)) (sets5_own Og3_4.out Xres_4.out (by decide) (.int .i64 c.room) (.slice ag1 c.items.length pg1) (.slice ag2 c.senders.length pg2) (.slice ag3 c.getters.length pg3) (.bool true)) (Nat.le_refl _) APg13.out; rw [HCL.out] at h9; exact h9, LOwn.none, (sets5_below B4.out (by first | omega | (simp only [szA, szS, szD, World.heap_drewN] at * <;> omega)) (.int .i64 c.room) (.slice ag1 c.items.length pg1) (.slice ag2 c.senders.length pg2) (.slice ag3 c.getters.length pg3) (.bool true))⟩
            · replace hcl : c.closed = false := (by simpa using hcl)
              have hcl2 := hcl; rw [hcl] at Xp_4 cp4_4
              have HCL := Lib.hid hcl2; clear hcl hcl2
              obtain ⟨e1, rfl, rfl, rfl, rfl⟩ := GN2.out HCL.out
              have E1 := Lib.hid e1; clear e1
              go_wp2_with (first | rw [← HW4.out] | (at_builtin; refine wpList_snoc _ encI_len encI_one rfl _ _ 22 rfl 3 _ 8 Try.underlying22 info_int rfl (by decide) w.heap.size (.slice ag3 c.getters.length pg3) c.getters rfl Og3_4.out t _ rfl _ rfl (by first | omega | (have := Q4.out; omega)) (by decide) (by omega) (by first | omega | (have := Q4.out; omega)) ?_; intro ad5 cp5 w5 hown hg hat; have hqq := Q4.out; obtain ⟨g3L5, hg3L5⟩ : ∃ l, c.getters ++ [t] = l := ⟨_, rfl⟩; have lg3L5 : c.getters.length + 1 = g3L5.length := (by rw [← hg3L5, List.length_append, List.length_singleton]); rw [hg3L5, lg3L5] at hown; rw [lg3L5]; have Hg3L5 := Lib.hid hg3L5; clear hg3L5; have Kg3L5 := Lib.hid lg3L5; clear lg3L5; rw [Kg3L5.out] at hat; have ANg3_g1_5 := Lib.hid (Apart.push (v' := .slice ad5 g3L5.length cp5) APg13.out.symm hat Og1_4.out.hi (by first | omega | (simp only [szA, szS]; omega))); clear hat; have Xp_5 := Lib.hid (grown_at2 hg (heap_up Xp_4.out) (Og3_4.out.ne Xp_4.out (by decide))); have Xres_5 := Lib.hid (grown_at2 hg (heap_up Xres_4.out) (Og3_4.out.ne Xres_4.out (by decide))); have Og1_5 := Lib.hid ((Og1_4.out.alloc _).apart hg APg13.out.symm); have Og2_5 := Lib.hid ((Og2_4.out.alloc _).apart hg (Own.apart_types Og3_4.out Og2_4.out (by decide))); have Og3_5 := Lib.hid hown; have B5 := Lib.hid (Below.grown (Below.alloc B4.out (by first | omega | (simp only [szA, szS, szD, World.heap_drewN] at * <;> omega)) _) hg (by first | omega | (simp only [szA, szS, szD, World.heap_drewN]; omega)) (fun g e => Nat.le_trans (by omega) (Og3_4.out.blk g e))); have N5 : w4.heap.size + 1 ≤ w5.heap.size := (by first | with_reducible exact hg.size | (have := hg.size; simp only [szA, szS, szD] at this; omega)); clear hown hg; obtain ⟨cp5_0, cp5_1, cp5_2, cp5_3, cp5_4, fp5_0, fp5_1, fp5_2, fp5_3, fp5_4⟩ := box5 Xp_5.out; have lp5 := heap_lt Xp_5.out; obtain ⟨cres5_0, cres5_1, cres5_2, cres5_3, cres5_4, fres5_0, fres5_1, fres5_2, fres5_3, fres5_4⟩ := box5 Xres_5.out; have lres5 := heap_lt Xres_5.out; have S5 : w.heap.size ≤ w5.heap.size := (by omega); clear hqq))
              clear cp3_0 cp3_1 cp3_2 cp3_3 cp3_4 fp3_0 fp3_1 fp3_2 fp3_3 fp3_4 cres3_0 cres3_1 cres3_2 cres3_3 cres3_4 fres3_0 fres3_1 fres3_2 fres3_3 fres3_4 cp4_0 cp4_1 cp4_2 cp4_3 cp4_4 fp4_0 fp4_1 fp4_2 fp4_3 fp4_4 cres4_0 cres4_1 cres4_2 cres4_3 cres4_4 fres4_0 fres4_1 fres4_2 fres4_3 fres4_4
              have hrz : r = ⟨c.room, c.items, c.senders, g3L5, c.closed⟩ := by rw [E1.out, Hg3L5.out]
              have HRZ := Lib.hid hrz; clear hrz
              have hzl : g3L5.length ≤ 10 := by have := Kg3L5.out; omega
              go_wp2_with (fail)
              refine (chanClone_calls _ r _ (by rw [HRZ.out, HCL.out]; exact ⟨_, _, _, _, _, _, rfl, Own.row encI_len (Og1_5.out.setB (w.heap.size) 3 Xp_5.out (by decide) (.slice ad5 g3L5.length cp5)), Own.row encP_len (Og2_5.out.setB (w.heap.size) 3 Xp_5.out (by decide) (.slice ad5 g3L5.length cp5)), Own.row encI_len (Og3_5.out.setB (w.heap.size) 3 Xp_5.out (by decide) (.slice ad5 g3L5.length cp5))⟩) (by rw [HRZ.out]; simp only []; omega)).mono ?_
              rintro e w6 ⟨vr, rfl, ho_r, hb⟩
              have B6 := Lib.hid (Below.trans (below_setAt B5.out (w.heap.size) 3 (by first | omega | (simp only [szA, szS, szD, World.heap_drewN] at * <;> omega)) (.slice ad5 g3L5.length cp5)) (hb.mono (by first | omega | (simp only [szA, szS, szD, World.heap_drewN] at * <;> omega))) : Below w.heap.size w w6)
              have Z6 := hb.size
              have N6 : w5.heap.size ≤ w6.heap.size := (by first | with_reducible exact Z6 | (simp only [szA, szS, szD] at Z6; omega))
              clear Z6
              have Xp_6 := Lib.hid (below_at hb (set_at (a := ⟨w.heap.size, 3, none⟩) Xp_5.out rfl rfl (.slice ad5 g3L5.length cp5)))
              have Xres_6 := Lib.hid (below_at hb (set_off (a := ⟨w.heap.size, 3, none⟩) Xres_5.out (by first | omega | (simp only [szA, szS, szD, World.heap_drewN] at * <;> omega)) (.slice ad5 g3L5.length cp5)))
              have Og1_6 := Lib.hid ((Og1_5.out.setB (w.heap.size) 3 Xp_5.out (by decide) (.slice ad5 g3L5.length cp5)).kept hb)
              have Og2_6 := Lib.hid ((Og2_5.out.setB (w.heap.size) 3 Xp_5.out (by decide) (.slice ad5 g3L5.length cp5)).kept hb)
              have Og3_6 := Lib.hid ((Og3_5.out.setB (w.heap.size) 3 Xp_5.out (by decide) (.slice ad5 g3L5.length cp5)).kept hb)
              have Or_6 := Lib.hid (ho_r.mono (lo' := w.heap.size) (by first | omega | (simp only [szA, szS, szD, World.heap_drewN] at * <;> omega)) (Nat.le_refl _)); obtain ⟨ar1, pr1, ar2, pr2, ar3, pr3, rfl, hx_r⟩ := ho_r; clear hx_r
              clear hb
              obtain ⟨cp6_0, cp6_1, cp6_2, cp6_3, cp6_4, fp6_0, fp6_1, fp6_2, fp6_3, fp6_4⟩ := box5 Xp_6.out; have lp6 := heap_lt Xp_6.out
              obtain ⟨cres6_0, cres6_1, cres6_2, cres6_3, cres6_4, fres6_0, fres6_1, fres6_2, fres6_3, fres6_4⟩ := box5 Xres_6.out; have lres6 := heap_lt Xres_6.out
              have S6 : w.heap.size ≤ w6.heap.size := (by omega)
              clear cp5_0 cp5_1 cp5_2 cp5_3 cp5_4 fp5_0 fp5_1 fp5_2 fp5_3 fp5_4 cres5_0 cres5_1 cres5_2 cres5_3 cres5_4 fres5_0 fres5_1 fres5_2 fres5_3 fres5_4
              go_wp2_with (fail)
              refine bodyPost_ret (v := .tuple #[.agg #[.int .i64 r.room, .slice ar1 r.items.length pr1, .slice ar2 r.senders.length pr2, .slice ar3 r.getters.length pr3, .bool r.closed], .int .i64 0, .int .i64 0, .slice none 0 0, .bool true]) (by simp [results, Try.results38, go_sem, cres6_0, cres6_1, cres6_2, cres6_3, cres6_4, lres6]) rfl ⟨_, _, rfl, (Or_6.out.grownX (sets5_grown _ (w.heap.size + 1) (.int .i64 r.room) (.slice ar1 r.items.length pr1) (.slice ar2 r.senders.length pr2) (.slice ar3 r.getters.length pr3) (.bool r.closed)) Xres_6.out (by decide)).mono (by first | omega | (simp only [szA, szS, szD, World.heap_drewN] at * <;> omega)) (by first | omega | (simp only [szA, szS, szD, World.heap_drewN] at * <;> omega)), LOwn.none, (sets5_below B6.out (by first | omega | (simp only [szA, szS, szD, World.heap_drewN] at * <;> omega)) (.int .i64 r.room) (.slice ar1 r.items.length pr1) (.slice ar2 r.senders.length pr2) (.slice ar3 r.getters.length pr3) (.bool r.closed))⟩
end Go.Proofs.Ytpgiinklbnlloaa
