/- spec.SendChan (made by gen_chan.py). -/
import Derived.Test.YtpgiinklbnlloaaChanWaits
import Derived.Test.YtpgiinklbnlloaaChanCopy
import Derived.Test.YtpgiinklbnlloaaChanValidS
import Derived.Deep.RegionHeld3
namespace Go.Proofs.Ytpgiinklbnlloaa
open Go.RowKit
set_option linter.unusedSimpArgs false
set_option linter.unusedVariables false
set_option maxHeartbeats 8000000 in
theorem sSendChanO (v : Value) (c : ChanD) (t x : Int) (r : ChanD) (y : List Int) (s1 b1 : Bool) (w : World) (h : ChanRow w v c) (hn : c.items.length + c.senders.length + c.getters.length ≤ 1048576) (hr : send c t x = (r, y, s1, b1)) :
    Calls Try.prog 35 #[v, .int .i64 t, .int .i64 x] w fun e w' => ∃ v' u', e = .returned (.tuple #[v', u', .bool s1, .bool b1]) ∧ ChanOwn w.heap.size w'.heap.size w' v' r ∧ LOwn w.heap.size w'.heap.size w' u' y ∧ Below w.heap.size w w' := by
  have HP := Lib.hid h
  obtain ⟨aP1, pP1, aP2, pP2, aP3, pP3, rfl, hr1, hr2, hr3⟩ := h
  have HI1 := Lib.hid hr1; have HI2 := Lib.hid hr2; have HI3 := Lib.hid hr3; clear hr1 hr2 hr3
  have HR := Lib.hid hr; clear hr
  go_enter Try.func35, Try.ntmps35
  go_wp2_with (fail)
  refine (sChanValid_calls _ c _ (ChanRow.below HP.out (Below.alloc (Below.alloc (Below.refl _ _) (by first | omega | (simp only [szA, szS, szD, World.heap_drewN] at * <;> omega)) _) (by first | omega | (simp only [szA, szS, szD, World.heap_drewN] at * <;> omega)) _)) hn).mono ?_
  rintro e w1 ⟨rfl, hb⟩
  have B1 := Lib.hid (Below.trans (Below.alloc (Below.alloc (Below.refl _ _) (by first | omega | (simp only [szA, szS, szD, World.heap_drewN] at * <;> omega)) _) (by first | omega | (simp only [szA, szS, szD, World.heap_drewN] at * <;> omega)) _) (hb.mono (by first | omega | (simp only [szA, szS, szD, World.heap_drewN] at * <;> omega))) : Below w.heap.size w w1)
  have Z1 := hb.size
  have N1 : w.heap.size + 2 ≤ w1.heap.size := (by first | with_reducible exact Z1 | (simp only [szA, szS, szD] at Z1; omega))
  clear Z1
  have Xp_1 : Hid (w1.heap[w.heap.size]? = some (.cells #[.int .i64 c.room, .slice aP1 c.items.length pP1, .slice aP2 c.senders.length pP2, .slice aP3 c.getters.length pP3, .bool c.closed] 25 (0, 0))) := below_at hb (heap_up (heap_at' (n := w.heap.size) (by first | omega | (simp only [szA, szS, szD, World.heap_drewN] at * <;> omega))))
  have Xres_1 : Hid (w1.heap[w.heap.size + 1]? = some (.cells #[.int .i64 0, .slice none 0 0, .slice none 0 0, .slice none 0 0, .bool false] 25 (0, 0))) := below_at hb (heap_at' (n := w.heap.size + 1) (by first | omega | (simp only [szA, szS, szD, World.heap_drewN] at * <;> omega)))
  clear hb
  obtain ⟨cp1_0, cp1_1, cp1_2, cp1_3, cp1_4, fp1_0, fp1_1, fp1_2, fp1_3, fp1_4⟩ := box5 Xp_1.out; have lp1 := heap_lt Xp_1.out
  obtain ⟨cres1_0, cres1_1, cres1_2, cres1_3, cres1_4, fres1_0, fres1_1, fres1_2, fres1_3, fres1_4⟩ := box5 Xres_1.out; have lres1 := heap_lt Xres_1.out
  have S1 : w.heap.size ≤ w1.heap.size := (by omega)
  cases hv : chanB c
  · have HV := Lib.hid hv; clear hv
    obtain ⟨rfl, rfl, rfl, rfl⟩ := send_no HR.out (by simp [sendOk, HV.out])
    go_wp2_with (fail)
    refine bodyPost_ret (v := .tuple #[.agg #[.int .i64 0, .slice none 0 0, .slice none 0 0, .slice none 0 0, .bool false], .slice (some ⟨w1.heap.size, 0, none⟩) 0 0, .bool false, .bool false]) (by simp [results, Try.results35, go_sem, cres1_0, cres1_1, cres1_2, cres1_3, cres1_4, lres1]) rfl ⟨_, _, rfl, ChanOwn.nils, LOwn.of (Own.empty (heap_at' (n := w1.heap.size) (by first | omega | (simp only [szA, szS, szD, World.heap_drewN] at * <;> omega))) (by omega)) (Nat.le_refl _), (Below.alloc (sets5_below B1.out (by first | omega | (simp only [szA, szS, szD, World.heap_drewN] at * <;> omega)) (.int .i64 0) (.slice none 0 0) (.slice none 0 0) (.slice none 0 0) (.bool false)) (by first | omega | (simp only [szA, szS, szD, World.heap_drewN] at * <;> omega)) _)⟩
  · have HV := Lib.hid hv; obtain ⟨m1, m2⟩ := (chanB_true.1 hv).small; clear hv
    cases hcl : c.closed
    · rw [hcl] at Xp_1 HP cp1_4
      have HCL := Lib.hid hcl; clear hcl
      go_wp2_with (fail)
      refine (l1Thread_calls t _).mono ?_
      rintro e w' ⟨rfl, rfl⟩
      cases ht : thrB t
      · have HT := Lib.hid ht; clear ht
        obtain ⟨rfl, rfl, rfl, rfl⟩ := send_no HR.out (by simp [sendOk, HT.out])
        go_wp2_with (fail)
        refine bodyPost_ret (v := .tuple #[.agg #[.int .i64 0, .slice none 0 0, .slice none 0 0, .slice none 0 0, .bool false], .slice (some ⟨w1.heap.size, 0, none⟩) 0 0, .bool false, .bool false]) (by simp [results, Try.results35, go_sem, cres1_0, cres1_1, cres1_2, cres1_3, cres1_4, lres1]) rfl ⟨_, _, rfl, ChanOwn.nils, LOwn.of (Own.empty (heap_at' (n := w1.heap.size) (by first | omega | (simp only [szA, szS, szD, World.heap_drewN] at * <;> omega))) (by omega)) (Nat.le_refl _), (Below.alloc (sets5_below B1.out (by first | omega | (simp only [szA, szS, szD, World.heap_drewN] at * <;> omega)) (.int .i64 0) (.slice none 0 0) (.slice none 0 0) (.slice none 0 0) (.bool false)) (by first | omega | (simp only [szA, szS, szD, World.heap_drewN] at * <;> omega)) _)⟩
      · have HT := Lib.hid ht; clear ht
        go_wp2_with (fail)
        refine (l2Value_calls x _).mono ?_
        rintro e w' ⟨rfl, rfl⟩
        cases hx : valB x
        · have HX := Lib.hid hx; clear hx
          obtain ⟨rfl, rfl, rfl, rfl⟩ := send_no HR.out (by simp [sendOk, HX.out])
          go_wp2_with (fail)
          refine bodyPost_ret (v := .tuple #[.agg #[.int .i64 0, .slice none 0 0, .slice none 0 0, .slice none 0 0, .bool false], .slice (some ⟨w1.heap.size, 0, none⟩) 0 0, .bool false, .bool false]) (by simp [results, Try.results35, go_sem, cres1_0, cres1_1, cres1_2, cres1_3, cres1_4, lres1]) rfl ⟨_, _, rfl, ChanOwn.nils, LOwn.of (Own.empty (heap_at' (n := w1.heap.size) (by first | omega | (simp only [szA, szS, szD, World.heap_drewN] at * <;> omega))) (by omega)) (Nat.le_refl _), (Below.alloc (sets5_below B1.out (by first | omega | (simp only [szA, szS, szD, World.heap_drewN] at * <;> omega)) (.int .i64 0) (.slice none 0 0) (.slice none 0 0) (.slice none 0 0) (.bool false)) (by first | omega | (simp only [szA, szS, szD, World.heap_drewN] at * <;> omega)) _)⟩
        · have HX := Lib.hid hx; clear hx
          go_wp2_with (fail)
          refine (l5Waits_calls _ c t _ (ChanRow.below HP.out B1.out) (by omega)).mono ?_
          rintro e w2 ⟨rfl, hb⟩
          have B2 := Lib.hid (Below.trans B1.out (hb.mono (by first | omega | (simp only [szA, szS, szD, World.heap_drewN] at * <;> omega))) : Below w.heap.size w w2)
          have Z2 := hb.size
          have N2 : w1.heap.size ≤ w2.heap.size := (by first | with_reducible exact Z2 | (simp only [szA, szS, szD] at Z2; omega))
          clear Z2
          have Xp_2 := Lib.hid (below_at hb Xp_1.out)
          have Xres_2 := Lib.hid (below_at hb Xres_1.out)
          clear hb
          obtain ⟨cp2_0, cp2_1, cp2_2, cp2_3, cp2_4, fp2_0, fp2_1, fp2_2, fp2_3, fp2_4⟩ := box5 Xp_2.out; have lp2 := heap_lt Xp_2.out
          obtain ⟨cres2_0, cres2_1, cres2_2, cres2_3, cres2_4, fres2_0, fres2_1, fres2_2, fres2_3, fres2_4⟩ := box5 Xres_2.out; have lres2 := heap_lt Xres_2.out
          have S2 : w.heap.size ≤ w2.heap.size := (by omega)
          clear cp1_0 cp1_1 cp1_2 cp1_3 cp1_4 fp1_0 fp1_1 fp1_2 fp1_3 fp1_4 cres1_0 cres1_1 cres1_2 cres1_3 cres1_4 fres1_0 fres1_1 fres1_2 fres1_3 fres1_4
          by_cases hin : t ∈ chanThr c
          · rw [decide_eq_true hin]
            have HI := Lib.hid hin; clear hin
            obtain ⟨rfl, rfl, rfl, rfl⟩ := send_no HR.out (by simp [sendOk, HI.out])
            go_wp2_with (fail)
            refine bodyPost_ret (v := .tuple #[.agg #[.int .i64 0, .slice none 0 0, .slice none 0 0, .slice none 0 0, .bool false], .slice (some ⟨w2.heap.size, 0, none⟩) 0 0, .bool false, .bool false]) (by simp [results, Try.results35, go_sem, cres2_0, cres2_1, cres2_2, cres2_3, cres2_4, lres2]) rfl ⟨_, _, rfl, ChanOwn.nils, LOwn.of (Own.empty (heap_at' (n := w2.heap.size) (by first | omega | (simp only [szA, szS, szD, World.heap_drewN] at * <;> omega))) (by omega)) (Nat.le_refl _), (Below.alloc (sets5_below B2.out (by first | omega | (simp only [szA, szS, szD, World.heap_drewN] at * <;> omega)) (.int .i64 0) (.slice none 0 0) (.slice none 0 0) (.slice none 0 0) (.bool false)) (by first | omega | (simp only [szA, szS, szD, World.heap_drewN] at * <;> omega)) _)⟩
          · rw [decide_eq_false hin]
            have HO := Lib.hid (show sendOk c t x = true by simp [sendOk, HV.out, HT.out, hin, HCL.out, HX.out]); clear hin HV HT HX
            go_wp2_with (fail)
            refine (l5Copy_calls _ c _ (ChanRow.below HP.out B2.out) hn).mono ?_
            rintro e w3 ⟨vg, rfl, ho_g, hb⟩
            have B3 := Lib.hid (Below.trans B2.out (hb.mono (by first | omega | (simp only [szA, szS, szD, World.heap_drewN] at * <;> omega))) : Below w.heap.size w w3)
            have Z3 := hb.size
            have N3 : w2.heap.size ≤ w3.heap.size := (by first | with_reducible exact Z3 | (simp only [szA, szS, szD] at Z3; omega))
            clear Z3
            have Xp_3 := Lib.hid (below_at hb Xp_2.out)
            have Xres_3 := Lib.hid (below_at hb Xres_2.out)
            obtain ⟨ag1, pg1, ag2, pg2, ag3, pg3, rfl, ho1, hx1, ho2, hx2, ho3, hx3, ap13⟩ := ho_g
            have Og1_3 := Lib.hid (Own.mono (base' := w.heap.size) ho1 (by first | omega | (simp only [szA, szS, szD, World.heap_drewN] at * <;> omega))); clear ho1 hx1
            have Og2_3 := Lib.hid (Own.mono (base' := w.heap.size) ho2 (by first | omega | (simp only [szA, szS, szD, World.heap_drewN] at * <;> omega))); clear ho2 hx2
            have Og3_3 := Lib.hid (Own.mono (base' := w.heap.size) ho3 (by first | omega | (simp only [szA, szS, szD, World.heap_drewN] at * <;> omega))); clear ho3 hx3
            have APg13 := Lib.hid ap13; clear ap13
            clear hb
            obtain ⟨cp3_0, cp3_1, cp3_2, cp3_3, cp3_4, fp3_0, fp3_1, fp3_2, fp3_3, fp3_4⟩ := box5 Xp_3.out; have lp3 := heap_lt Xp_3.out
            obtain ⟨cres3_0, cres3_1, cres3_2, cres3_3, cres3_4, fres3_0, fres3_1, fres3_2, fres3_3, fres3_4⟩ := box5 Xres_3.out; have lres3 := heap_lt Xres_3.out
            have S3 : w.heap.size ≤ w3.heap.size := (by omega)
            clear cp2_0 cp2_1 cp2_2 cp2_3 cp2_4 fp2_0 fp2_1 fp2_2 fp2_3 fp2_4 cres2_0 cres2_1 cres2_2 cres2_3 cres2_4 fres2_0 fres2_1 fres2_2 fres2_3 fres2_4
            obtain ⟨w4, hw⟩ : ∃ x : World, x = (w3.alloc (.cells #[.int .i64 c.room, .slice ag1 c.items.length pg1, .slice ag2 c.senders.length pg2, .slice ag3 c.getters.length pg3, .bool c.closed] 25)) := ⟨_, rfl⟩
            have B4 := Lib.hid (show Below w.heap.size w w4 by rw [hw]; exact (Below.alloc B3.out (by first | omega | (simp only [szA, szS, szD, World.heap_drewN] at * <;> omega)) _))
            have N4 : w3.heap.size + 1 ≤ w4.heap.size := (by rw [hw]; simp only [szS, szA]; omega)
            have Og1_4 := Lib.hid (show Own w.heap.size 3 1 encI w4 (.slice ag1 c.items.length pg1) c.items by rw [hw]; exact (Og1_3.out.alloc _))
            have Og2_4 := Lib.hid (show Own w.heap.size 58 2 encP w4 (.slice ag2 c.senders.length pg2) c.senders by rw [hw]; exact (Og2_3.out.alloc _))
            have Og3_4 := Lib.hid (show Own w.heap.size 3 1 encI w4 (.slice ag3 c.getters.length pg3) c.getters by rw [hw]; exact (Og3_3.out.alloc _))
            have Xp_4 := Lib.hid (show w4.heap[w.heap.size]? = some (.cells #[.int .i64 c.room, .slice aP1 c.items.length pP1, .slice aP2 c.senders.length pP2, .slice aP3 c.getters.length pP3, .bool false] 25 (0, 0)) by rw [hw]; exact (heap_up Xp_3.out))
            have Xres_4 := Lib.hid (show w4.heap[w.heap.size + 1]? = some (.cells #[.int .i64 0, .slice none 0 0, .slice none 0 0, .slice none 0 0, .bool false] 25 (0, 0)) by rw [hw]; exact (heap_up Xres_3.out))
            have Xout_4 := Lib.hid (show w4.heap[w3.heap.size]? = some (.cells #[.int .i64 c.room, .slice ag1 c.items.length pg1, .slice ag2 c.senders.length pg2, .slice ag3 c.getters.length pg3, .bool c.closed] 25 (0, 0)) by rw [hw]; exact (heap_at' (n := w3.heap.size) (by first | omega | (simp only [szA, szS, szD, World.heap_drewN] at * <;> omega))))
            have Q4 := Lib.hid (show w4.heap.size = w3.heap.size + 1 by rw [hw]; simp only [szS, szA])
            have HW4 := Lib.hid hw; clear hw
            obtain ⟨cp4_0, cp4_1, cp4_2, cp4_3, cp4_4, fp4_0, fp4_1, fp4_2, fp4_3, fp4_4⟩ := box5 Xp_4.out; have lp4 := heap_lt Xp_4.out
            obtain ⟨cres4_0, cres4_1, cres4_2, cres4_3, cres4_4, fres4_0, fres4_1, fres4_2, fres4_3, fres4_4⟩ := box5 Xres_4.out; have lres4 := heap_lt Xres_4.out
            obtain ⟨cout4_0, cout4_1, cout4_2, cout4_3, cout4_4, fout4_0, fout4_1, fout4_2, fout4_3, fout4_4⟩ := box5 Xout_4.out; have lout4 := heap_lt Xout_4.out
            have S4 : w.heap.size ≤ w4.heap.size := (by omega)
            by_cases hq : 0 < c.getters.length
            · obtain ⟨e1, e2, rfl, rfl⟩ := send_get HR.out HO.out hq
              have d1 := len_ne hq
              obtain ⟨y, hy⟩ := get_ex hq
              obtain ⟨ys, hys⟩ : ∃ ys, c.getters.drop 1 = ys := ⟨_, rfl⟩
              have hyl : c.getters.length - 1 = ys.length := by rw [← hys]; simp
              have hyn : ys.length ≤ 6 := by omega
              obtain ⟨b0, off, hab, hblt, hc⟩ := irow_at HI3.out hq
              subst hab
              have c00 := hc 0 y hy
              rw [Nat.add_zero] at c00
              have HT1 := row_rest HI3.out hq
              rw [hys, hyl] at HT1
              obtain ⟨A, hA⟩ : ∃ A : Addr, (if pP3 = 1 then (some (⟨b0, off, none⟩ : Addr)) else some ⟨b0, off + 1, none⟩) = some A := by split <;> exact ⟨_, rfl⟩
              rw [hA] at HT1
              have hcap := irow_cap HI3.out
              have k1 : (1 : Int) ≤ (c.getters.length : Int) := by omega
              have k2 : 1 ≤ c.getters.length := by omega
              have k3 : (1 : Int) ≤ (pP3 : Int) := by omega
              have k4 : 1 ≤ pP3 := by omega
              have k5 : (c.getters.length : Int) ≤ (pP3 : Int) := by omega
              have HYT := Lib.hid (show c.getters.take 1 = [y] by cases hq' : c.getters with | nil => rw [hq'] at hy; cases hy | cons z r => rw [hq'] at hy; simp at hy; simp [hy])
              have HYS := Lib.hid hys; have HT2 := Lib.hid HT1; clear hc hy hys HT1
              rw [HYS.out] at e1; rw [HYT.out] at e2; subst e1 e2
              go_wp2_with (first | rw [← HW4.out] | (at_builtin; refine wpList_cloneE _ encI_len encI_one rfl _ _ 22 rfl 3 _ 8 Try.underlying22 info_int rfl (by decide) (w4.heap.size) rfl (by first | omega | (simp only [szA, szS, szD, World.heap_drewN] at * <;> omega)) (.slice (some A) ys.length (pP3 - 1)) ys rfl (Row.below HT2.out B4.out) (by decide) (by omega) ?_; intro asg psg w5 ho_sg hb; have B5 := Lib.hid (Below.trans B4.out (hb.mono (by first | omega | (simp only [szA, szS, szD, World.heap_drewN] at * <;> omega))) : Below w.heap.size w w5); have Z5 := hb.size; have N5 : w4.heap.size ≤ w5.heap.size := (by first | with_reducible exact Z5 | (simp only [szA, szS, szD] at Z5; omega)); clear Z5; have Xp_5 := Lib.hid (below_at hb Xp_4.out); have Xres_5 := Lib.hid (below_at hb Xres_4.out); have Xout_5 := Lib.hid (below_at hb Xout_4.out); have Og1_5 := Lib.hid (Og1_4.out.kept hb); have Og2_5 := Lib.hid (Og2_4.out.kept hb); have Og3_5 := Lib.hid (Og3_4.out.kept hb); have APsg_g1 := Lib.hid (Own.later_apart Og1_4.out ho_sg (Nat.le_refl _)); have APsg_g3 := Lib.hid (Own.later_apart Og3_4.out ho_sg (Nat.le_refl _)); have Osg_5 := Lib.hid (Own.mono (base' := w.heap.size) ho_sg (by first | omega | (simp only [szA, szS, szD, World.heap_drewN] at * <;> omega))); clear ho_sg; clear hb; obtain ⟨cp5_0, cp5_1, cp5_2, cp5_3, cp5_4, fp5_0, fp5_1, fp5_2, fp5_3, fp5_4⟩ := box5 Xp_5.out; have lp5 := heap_lt Xp_5.out; obtain ⟨cres5_0, cres5_1, cres5_2, cres5_3, cres5_4, fres5_0, fres5_1, fres5_2, fres5_3, fres5_4⟩ := box5 Xres_5.out; have lres5 := heap_lt Xres_5.out; obtain ⟨cout5_0, cout5_1, cout5_2, cout5_3, cout5_4, fout5_0, fout5_1, fout5_2, fout5_3, fout5_4⟩ := box5 Xout_5.out; have lout5 := heap_lt Xout_5.out; have S5 : w.heap.size ≤ w5.heap.size := (by omega)))
              clear cp3_0 cp3_1 cp3_2 cp3_3 cp3_4 fp3_0 fp3_1 fp3_2 fp3_3 fp3_4 cres3_0 cres3_1 cres3_2 cres3_3 cres3_4 fres3_0 fres3_1 fres3_2 fres3_3 fres3_4 cp4_0 cp4_1 cp4_2 cp4_3 cp4_4 fp4_0 fp4_1 fp4_2 fp4_3 fp4_4 cres4_0 cres4_1 cres4_2 cres4_3 cres4_4 fres4_0 fres4_1 fres4_2 fres4_3 fres4_4 cout4_0 cout4_1 cout4_2 cout4_3 cout4_4 fout4_0 fout4_1 fout4_2 fout4_3 fout4_4
              have ne_p : b0 ≠ w.heap.size := (by omega); have nf_p := ne_p.symm
              have ne_res : b0 ≠ w.heap.size + 1 := (by omega); have nf_res := ne_res.symm
              have ne_out : b0 ≠ w3.heap.size := (by omega); have nf_out := ne_out.symm
              have cE := (B5.out.cell (p := ⟨b0, off, none⟩) hblt).trans c00
              have ny_p : w.heap.size ≠ w5.heap.size := (by omega)
              have ny_res : w.heap.size + 1 ≠ w5.heap.size := (by omega)
              have ny_out : w3.heap.size ≠ w5.heap.size := (by omega)
              have ny_e : b0 ≠ w5.heap.size := (by omega)
              have nz : w3.heap.size ≠ w.heap.size + 1 := (by omega)
              have nz2 := nz.symm
              obtain ⟨w6, hw⟩ : ∃ x : World, x = (w5.setCell ⟨w3.heap.size, 3, none⟩ (.slice asg ys.length psg)) := ⟨_, rfl⟩
              have B6 := Lib.hid (show Below w.heap.size w w6 by rw [hw]; exact (below_setAt B5.out (w3.heap.size) 3 (by first | omega | (simp only [szA, szS, szD, World.heap_drewN] at * <;> omega)) (.slice asg ys.length psg)))
              have N6 : w5.heap.size ≤ w6.heap.size := (by rw [hw]; simp only [szS, szA]; omega)
              have Og1_6 := Lib.hid (show Own w.heap.size 3 1 encI w6 (.slice ag1 c.items.length pg1) c.items by rw [hw]; exact (Og1_5.out.setB (w3.heap.size) 3 Xout_5.out (by decide) (.slice asg ys.length psg)))
              have Og2_6 := Lib.hid (show Own w.heap.size 58 2 encP w6 (.slice ag2 c.senders.length pg2) c.senders by rw [hw]; exact (Og2_5.out.setB (w3.heap.size) 3 Xout_5.out (by decide) (.slice asg ys.length psg)))
              have Og3_6 := Lib.hid (show Own w.heap.size 3 1 encI w6 (.slice ag3 c.getters.length pg3) c.getters by rw [hw]; exact (Og3_5.out.setB (w3.heap.size) 3 Xout_5.out (by decide) (.slice asg ys.length psg)))
              have Osg_6 := Lib.hid (show Own w.heap.size 3 1 encI w6 (.slice asg ys.length psg) ys by rw [hw]; exact (Osg_5.out.setB (w3.heap.size) 3 Xout_5.out (by decide) (.slice asg ys.length psg)))
              have Xp_6 := Lib.hid (show w6.heap[w.heap.size]? = some (.cells #[.int .i64 c.room, .slice aP1 c.items.length pP1, .slice aP2 c.senders.length pP2, .slice (some ⟨b0, off, none⟩) c.getters.length pP3, .bool false] 25 (0, 0)) by rw [hw]; exact (set_off (a := ⟨w3.heap.size, 3, none⟩) Xp_5.out (by first | omega | (simp only [szA, szS, szD, World.heap_drewN] at * <;> omega)) (.slice asg ys.length psg)))
              have Xres_6 := Lib.hid (show w6.heap[w.heap.size + 1]? = some (.cells #[.int .i64 0, .slice none 0 0, .slice none 0 0, .slice none 0 0, .bool false] 25 (0, 0)) by rw [hw]; exact (set_off (a := ⟨w3.heap.size, 3, none⟩) Xres_5.out (by first | omega | (simp only [szA, szS, szD, World.heap_drewN] at * <;> omega)) (.slice asg ys.length psg)))
              have Xout_6 := Lib.hid (show w6.heap[w3.heap.size]? = some (.cells #[.int .i64 c.room, .slice ag1 c.items.length pg1, .slice ag2 c.senders.length pg2, .slice asg ys.length psg, .bool c.closed] 25 (0, 0)) by rw [hw]; exact (set_at (a := ⟨w3.heap.size, 3, none⟩) Xout_5.out rfl rfl (.slice asg ys.length psg)))
              have Q6 := Lib.hid (show w6.heap.size = w5.heap.size by rw [hw]; simp only [szS, szA])
              have HW6 := Lib.hid hw; clear hw
              obtain ⟨cp6_0, cp6_1, cp6_2, cp6_3, cp6_4, fp6_0, fp6_1, fp6_2, fp6_3, fp6_4⟩ := box5 Xp_6.out; have lp6 := heap_lt Xp_6.out
              obtain ⟨cres6_0, cres6_1, cres6_2, cres6_3, cres6_4, fres6_0, fres6_1, fres6_2, fres6_3, fres6_4⟩ := box5 Xres_6.out; have lres6 := heap_lt Xres_6.out
              obtain ⟨cout6_0, cout6_1, cout6_2, cout6_3, cout6_4, fout6_0, fout6_1, fout6_2, fout6_3, fout6_4⟩ := box5 Xout_6.out; have lout6 := heap_lt Xout_6.out
              have S6 : w.heap.size ≤ w6.heap.size := (by omega)
              have cE2 := (B6.out.cell (p := ⟨b0, off, none⟩) hblt).trans c00
              have nw_p : w.heap.size ≠ w6.heap.size := (by omega)
              have nw_res : w.heap.size + 1 ≠ w6.heap.size := (by omega)
              have nw_out : w3.heap.size ≠ w6.heap.size := (by omega)
              have nw_e : b0 ≠ w6.heap.size := (by omega)
              go_wp2_with (rw [← HW6.out])
              go_region_held3 (fun w' => w'.cell? ⟨w3.heap.size, 0, none⟩ = some (.int .i64 c.room) ∧ w'.cell? ⟨w3.heap.size, 1, none⟩ = some (.slice ag1 c.items.length pg1) ∧ w'.cell? ⟨w3.heap.size, 2, none⟩ = some (.slice ag2 c.senders.length pg2) ∧ w'.cell? ⟨w3.heap.size, 3, none⟩ = some (.slice asg ys.length psg) ∧ w'.cell? ⟨w3.heap.size, 4, none⟩ = some (.bool c.closed) ∧ w'.cell? ⟨w.heap.size, 3, none⟩ = some (.slice (some ⟨b0, off, none⟩) c.getters.length pP3) ∧ w'.cell? ⟨b0, off, none⟩ = some (.int .i64 y)) (go_keep) (fail)
              all_goals
                go_wp2_with (fail)
                refine bodyPost_ret (v := .tuple #[.agg #[.int .i64 c.room, .slice ag1 c.items.length pg1, .slice ag2 c.senders.length pg2, .slice asg ys.length psg, .bool c.closed], .slice (some ⟨w6.heap.size, 0, none⟩) 1 1, .bool true, .bool true]) (by simp [results, Try.results35, go_sem, cres6_0, cres6_1, cres6_2, cres6_3, cres6_4, lres6]) rfl ⟨_, _, rfl, ChanOwn.make (Own.drewN ((sets5_own Og1_6.out Xres_6.out (by decide) (.int .i64 c.room) (.slice ag1 c.items.length pg1) (.slice ag2 c.senders.length pg2) (.slice asg ys.length psg) (.bool c.closed)).alloc _) 1) (Own.drewN ((sets5_own Og2_6.out Xres_6.out (by decide) (.int .i64 c.room) (.slice ag1 c.items.length pg1) (.slice ag2 c.senders.length pg2) (.slice asg ys.length psg) (.bool c.closed)).alloc _) 1) (Own.drewN ((sets5_own Osg_6.out Xres_6.out (by decide) (.int .i64 c.room) (.slice ag1 c.items.length pg1) (.slice ag2 c.senders.length pg2) (.slice asg ys.length psg) (.bool c.closed)).alloc _) 1) (Nat.le_refl _) APsg_g1.out.symm, LOwn.of (Own.litI (heap_drew (heap_at' (n := w6.heap.size) (by first | omega | (simp only [szA, szS, szD, World.heap_drewN] at * <;> omega)))) (by omega)) (Nat.le_refl _), (Below.alloc (sets5_below B6.out (by first | omega | (simp only [szA, szS, szD, World.heap_drewN] at * <;> omega)) (.int .i64 c.room) (.slice ag1 c.items.length pg1) (.slice ag2 c.senders.length pg2) (.slice asg ys.length psg) (.bool c.closed)) (by first | omega | (simp only [szA, szS, szD, World.heap_drewN] at * <;> omega)) _).drew⟩
            · have d1 := len_eq hq
              by_cases hr2 : (c.items.length : Int) < c.room
              · have d2 := decide_eq_true hr2
                obtain ⟨e1, rfl, rfl, rfl⟩ := send_room HR.out HO.out hq hr2
                have E1 := Lib.hid e1; clear e1
                go_wp2_with (first | rw [← HW4.out] | (at_builtin; refine wpList_snoc _ encI_len encI_one rfl _ _ 22 rfl 3 _ 8 Try.underlying22 info_int rfl (by decide) w.heap.size (.slice ag1 c.items.length pg1) c.items rfl Og1_4.out x _ rfl _ rfl (by first | omega | (have := Q4.out; omega)) (by decide) (by omega) (by first | omega | (have := Q4.out; omega)) ?_; intro ad5 cp5 w5 hown hg hat; have hqq := Q4.out; obtain ⟨g1L5, hg1L5⟩ : ∃ l, c.items ++ [x] = l := ⟨_, rfl⟩; have lg1L5 : c.items.length + 1 = g1L5.length := (by rw [← hg1L5, List.length_append, List.length_singleton]); rw [hg1L5, lg1L5] at hown; rw [lg1L5]; have Hg1L5 := Lib.hid hg1L5; clear hg1L5; have Kg1L5 := Lib.hid lg1L5; clear lg1L5; rw [Kg1L5.out] at hat; have ANg1_g3_5 := Lib.hid (Apart.push (v' := .slice ad5 g1L5.length cp5) APg13.out hat Og3_4.out.hi (by first | omega | (simp only [szA, szS]; omega))); clear hat; have Xp_5 := Lib.hid (grown_at2 hg (heap_up Xp_4.out) (Og1_4.out.ne Xp_4.out (by decide))); have Xres_5 := Lib.hid (grown_at2 hg (heap_up Xres_4.out) (Og1_4.out.ne Xres_4.out (by decide))); have Xout_5 := Lib.hid (grown_at2 hg (heap_up Xout_4.out) (Og1_4.out.ne Xout_4.out (by decide))); have Og2_5 := Lib.hid ((Og2_4.out.alloc _).apart hg (Own.apart_types Og1_4.out Og2_4.out (by decide))); have Og3_5 := Lib.hid ((Og3_4.out.alloc _).apart hg APg13.out); have Og1_5 := Lib.hid hown; have B5 := Lib.hid (Below.grown (Below.alloc B4.out (by first | omega | (simp only [szA, szS, szD, World.heap_drewN] at * <;> omega)) _) hg (by first | omega | (simp only [szA, szS, szD, World.heap_drewN]; omega)) (fun g e => Nat.le_trans (by omega) (Og1_4.out.blk g e))); have N5 : w4.heap.size + 1 ≤ w5.heap.size := (by first | with_reducible exact hg.size | (have := hg.size; simp only [szA, szS, szD] at this; omega)); clear hown hg; obtain ⟨cp5_0, cp5_1, cp5_2, cp5_3, cp5_4, fp5_0, fp5_1, fp5_2, fp5_3, fp5_4⟩ := box5 Xp_5.out; have lp5 := heap_lt Xp_5.out; obtain ⟨cres5_0, cres5_1, cres5_2, cres5_3, cres5_4, fres5_0, fres5_1, fres5_2, fres5_3, fres5_4⟩ := box5 Xres_5.out; have lres5 := heap_lt Xres_5.out; obtain ⟨cout5_0, cout5_1, cout5_2, cout5_3, cout5_4, fout5_0, fout5_1, fout5_2, fout5_3, fout5_4⟩ := box5 Xout_5.out; have lout5 := heap_lt Xout_5.out; have S5 : w.heap.size ≤ w5.heap.size := (by omega); clear hqq))
                clear cp3_0 cp3_1 cp3_2 cp3_3 cp3_4 fp3_0 fp3_1 fp3_2 fp3_3 fp3_4 cres3_0 cres3_1 cres3_2 cres3_3 cres3_4 fres3_0 fres3_1 fres3_2 fres3_3 fres3_4 cp4_0 cp4_1 cp4_2 cp4_3 cp4_4 fp4_0 fp4_1 fp4_2 fp4_3 fp4_4 cres4_0 cres4_1 cres4_2 cres4_3 cres4_4 fres4_0 fres4_1 fres4_2 fres4_3 fres4_4 cout4_0 cout4_1 cout4_2 cout4_3 cout4_4 fout4_0 fout4_1 fout4_2 fout4_3 fout4_4
                have hrz : r = ⟨c.room, g1L5, c.senders, c.getters, c.closed⟩ := by rw [E1.out, Hg1L5.out]
                subst hrz
                go_wp2_with (fail)
                refine bodyPost_ret (v := .tuple #[.agg #[.int .i64 c.room, .slice ad5 g1L5.length cp5, .slice ag2 c.senders.length pg2, .slice ag3 c.getters.length pg3, .bool c.closed], .slice (some ⟨w5.heap.size, 0, none⟩) 0 0, .bool true, .bool true]) (by simp [results, Try.results35, go_sem, cres5_0, cres5_1, cres5_2, cres5_3, cres5_4, lres5]) rfl ⟨_, _, rfl, ChanOwn.make ((sets5_own (Og1_5.out.setB (w3.heap.size) 1 Xout_5.out (by decide) (.slice ad5 g1L5.length cp5)) (set_off (a := ⟨w3.heap.size, 1, none⟩) Xres_5.out (by first | omega | (simp only [szA, szS, szD, World.heap_drewN] at * <;> omega)) (.slice ad5 g1L5.length cp5)) (by decide) (.int .i64 c.room) (.slice ad5 g1L5.length cp5) (.slice ag2 c.senders.length pg2) (.slice ag3 c.getters.length pg3) (.bool c.closed)).alloc _) ((sets5_own (Og2_5.out.setB (w3.heap.size) 1 Xout_5.out (by decide) (.slice ad5 g1L5.length cp5)) (set_off (a := ⟨w3.heap.size, 1, none⟩) Xres_5.out (by first | omega | (simp only [szA, szS, szD, World.heap_drewN] at * <;> omega)) (.slice ad5 g1L5.length cp5)) (by decide) (.int .i64 c.room) (.slice ad5 g1L5.length cp5) (.slice ag2 c.senders.length pg2) (.slice ag3 c.getters.length pg3) (.bool c.closed)).alloc _) ((sets5_own (Og3_5.out.setB (w3.heap.size) 1 Xout_5.out (by decide) (.slice ad5 g1L5.length cp5)) (set_off (a := ⟨w3.heap.size, 1, none⟩) Xres_5.out (by first | omega | (simp only [szA, szS, szD, World.heap_drewN] at * <;> omega)) (.slice ad5 g1L5.length cp5)) (by decide) (.int .i64 c.room) (.slice ad5 g1L5.length cp5) (.slice ag2 c.senders.length pg2) (.slice ag3 c.getters.length pg3) (.bool c.closed)).alloc _) (Nat.le_refl _) ANg1_g3_5.out, LOwn.of (Own.empty (heap_at' (n := w5.heap.size) (by first | omega | (simp only [szA, szS, szD, World.heap_drewN] at * <;> omega))) (by omega)) (Nat.le_refl _), (Below.alloc (sets5_below (below_setAt B5.out (w3.heap.size) 1 (by first | omega | (simp only [szA, szS, szD, World.heap_drewN] at * <;> omega)) (.slice ad5 g1L5.length cp5)) (by first | omega | (simp only [szA, szS, szD, World.heap_drewN] at * <;> omega)) (.int .i64 c.room) (.slice ad5 g1L5.length cp5) (.slice ag2 c.senders.length pg2) (.slice ag3 c.getters.length pg3) (.bool c.closed)) (by first | omega | (simp only [szA, szS, szD, World.heap_drewN] at * <;> omega)) _)⟩
              · have d2 := decide_eq_false hr2
                obtain ⟨e1, rfl, rfl, rfl⟩ := send_wait HR.out HO.out hq hr2
                have E1 := Lib.hid e1; clear e1
                go_wp2_with (first | rw [← HW4.out] | (at_builtin; refine wpList_snoc _ encP_len one_pair rfl _ _ 23 rfl 58 _ 16 Try.underlying23 info_Letter rfl (by decide) w.heap.size (.slice ag2 c.senders.length pg2) c.senders rfl Og2_4.out (t, x) _ rfl _ rfl (by first | omega | (have := Q4.out; omega)) (by decide) (by omega) (by first | omega | (have := Q4.out; omega)) ?_; intro ad5 cp5 w5 hown hg hat; have hqq := Q4.out; obtain ⟨g2L5, hg2L5⟩ : ∃ l, c.senders ++ [(t, x)] = l := ⟨_, rfl⟩; have lg2L5 : c.senders.length + 1 = g2L5.length := (by rw [← hg2L5, List.length_append, List.length_singleton]); rw [hg2L5, lg2L5] at hown; rw [lg2L5]; have Hg2L5 := Lib.hid hg2L5; clear hg2L5; have Kg2L5 := Lib.hid lg2L5; clear lg2L5; rw [Kg2L5.out] at hat; clear hat; have Xp_5 := Lib.hid (grown_at2 hg (heap_up Xp_4.out) (Og2_4.out.ne Xp_4.out (by decide))); have Xres_5 := Lib.hid (grown_at2 hg (heap_up Xres_4.out) (Og2_4.out.ne Xres_4.out (by decide))); have Xout_5 := Lib.hid (grown_at2 hg (heap_up Xout_4.out) (Og2_4.out.ne Xout_4.out (by decide))); have Og1_5 := Lib.hid ((Og1_4.out.alloc _).apart hg (Own.apart_types Og2_4.out Og1_4.out (by decide))); have Og3_5 := Lib.hid ((Og3_4.out.alloc _).apart hg (Own.apart_types Og2_4.out Og3_4.out (by decide))); have Og2_5 := Lib.hid hown; have B5 := Lib.hid (Below.grown (Below.alloc B4.out (by first | omega | (simp only [szA, szS, szD, World.heap_drewN] at * <;> omega)) _) hg (by first | omega | (simp only [szA, szS, szD, World.heap_drewN]; omega)) (fun g e => Nat.le_trans (by omega) (Og2_4.out.blk g e))); have N5 : w4.heap.size + 1 ≤ w5.heap.size := (by first | with_reducible exact hg.size | (have := hg.size; simp only [szA, szS, szD] at this; omega)); clear hown hg; obtain ⟨cp5_0, cp5_1, cp5_2, cp5_3, cp5_4, fp5_0, fp5_1, fp5_2, fp5_3, fp5_4⟩ := box5 Xp_5.out; have lp5 := heap_lt Xp_5.out; obtain ⟨cres5_0, cres5_1, cres5_2, cres5_3, cres5_4, fres5_0, fres5_1, fres5_2, fres5_3, fres5_4⟩ := box5 Xres_5.out; have lres5 := heap_lt Xres_5.out; obtain ⟨cout5_0, cout5_1, cout5_2, cout5_3, cout5_4, fout5_0, fout5_1, fout5_2, fout5_3, fout5_4⟩ := box5 Xout_5.out; have lout5 := heap_lt Xout_5.out; have S5 : w.heap.size ≤ w5.heap.size := (by omega); clear hqq))
                clear cp3_0 cp3_1 cp3_2 cp3_3 cp3_4 fp3_0 fp3_1 fp3_2 fp3_3 fp3_4 cres3_0 cres3_1 cres3_2 cres3_3 cres3_4 fres3_0 fres3_1 fres3_2 fres3_3 fres3_4 cp4_0 cp4_1 cp4_2 cp4_3 cp4_4 fp4_0 fp4_1 fp4_2 fp4_3 fp4_4 cres4_0 cres4_1 cres4_2 cres4_3 cres4_4 fres4_0 fres4_1 fres4_2 fres4_3 fres4_4 cout4_0 cout4_1 cout4_2 cout4_3 cout4_4 fout4_0 fout4_1 fout4_2 fout4_3 fout4_4
                have hrz : r = ⟨c.room, c.items, g2L5, c.getters, c.closed⟩ := by rw [E1.out, Hg2L5.out]
                subst hrz
                go_wp2_with (fail)
                refine bodyPost_ret (v := .tuple #[.agg #[.int .i64 c.room, .slice ag1 c.items.length pg1, .slice ad5 g2L5.length cp5, .slice ag3 c.getters.length pg3, .bool c.closed], .slice (some ⟨w5.heap.size, 0, none⟩) 0 0, .bool false, .bool true]) (by simp [results, Try.results35, go_sem, cres5_0, cres5_1, cres5_2, cres5_3, cres5_4, lres5]) rfl ⟨_, _, rfl, ChanOwn.make ((sets5_own (Og1_5.out.setB (w3.heap.size) 2 Xout_5.out (by decide) (.slice ad5 g2L5.length cp5)) (set_off (a := ⟨w3.heap.size, 2, none⟩) Xres_5.out (by first | omega | (simp only [szA, szS, szD, World.heap_drewN] at * <;> omega)) (.slice ad5 g2L5.length cp5)) (by decide) (.int .i64 c.room) (.slice ag1 c.items.length pg1) (.slice ad5 g2L5.length cp5) (.slice ag3 c.getters.length pg3) (.bool c.closed)).alloc _) ((sets5_own (Og2_5.out.setB (w3.heap.size) 2 Xout_5.out (by decide) (.slice ad5 g2L5.length cp5)) (set_off (a := ⟨w3.heap.size, 2, none⟩) Xres_5.out (by first | omega | (simp only [szA, szS, szD, World.heap_drewN] at * <;> omega)) (.slice ad5 g2L5.length cp5)) (by decide) (.int .i64 c.room) (.slice ag1 c.items.length pg1) (.slice ad5 g2L5.length cp5) (.slice ag3 c.getters.length pg3) (.bool c.closed)).alloc _) ((sets5_own (Og3_5.out.setB (w3.heap.size) 2 Xout_5.out (by decide) (.slice ad5 g2L5.length cp5)) (set_off (a := ⟨w3.heap.size, 2, none⟩) Xres_5.out (by first | omega | (simp only [szA, szS, szD, World.heap_drewN] at * <;> omega)) (.slice ad5 g2L5.length cp5)) (by decide) (.int .i64 c.room) (.slice ag1 c.items.length pg1) (.slice ad5 g2L5.length cp5) (.slice ag3 c.getters.length pg3) (.bool c.closed)).alloc _) (Nat.le_refl _) APg13.out, LOwn.of (Own.empty (heap_at' (n := w5.heap.size) (by first | omega | (simp only [szA, szS, szD, World.heap_drewN] at * <;> omega))) (by omega)) (Nat.le_refl _), (Below.alloc (sets5_below (below_setAt B5.out (w3.heap.size) 2 (by first | omega | (simp only [szA, szS, szD, World.heap_drewN] at * <;> omega)) (.slice ad5 g2L5.length cp5)) (by first | omega | (simp only [szA, szS, szD, World.heap_drewN] at * <;> omega)) (.int .i64 c.room) (.slice ag1 c.items.length pg1) (.slice ad5 g2L5.length cp5) (.slice ag3 c.getters.length pg3) (.bool c.closed)) (by first | omega | (simp only [szA, szS, szD, World.heap_drewN] at * <;> omega)) _)⟩
    · rw [hcl] at Xp_1 HP cp1_4
      have HCL := Lib.hid hcl; clear hcl
      obtain ⟨rfl, rfl, rfl, rfl⟩ := send_no HR.out (by simp [sendOk, HCL.out])
      go_wp2_with (fail)
      refine bodyPost_ret (v := .tuple #[.agg #[.int .i64 0, .slice none 0 0, .slice none 0 0, .slice none 0 0, .bool false], .slice (some ⟨w1.heap.size, 0, none⟩) 0 0, .bool false, .bool false]) (by simp [results, Try.results35, go_sem, cres1_0, cres1_1, cres1_2, cres1_3, cres1_4, lres1]) rfl ⟨_, _, rfl, ChanOwn.nils, LOwn.of (Own.empty (heap_at' (n := w1.heap.size) (by first | omega | (simp only [szA, szS, szD, World.heap_drewN] at * <;> omega))) (by omega)) (Nat.le_refl _), (Below.alloc (sets5_below B1.out (by first | omega | (simp only [szA, szS, szD, World.heap_drewN] at * <;> omega)) (.int .i64 0) (.slice none 0 0) (.slice none 0 0) (.slice none 0 0) (.bool false)) (by first | omega | (simp only [szA, szS, szD, World.heap_drewN] at * <;> omega)) _)⟩
end Go.Proofs.Ytpgiinklbnlloaa
