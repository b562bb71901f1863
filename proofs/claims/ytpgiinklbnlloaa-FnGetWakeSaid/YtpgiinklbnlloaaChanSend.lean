/- impl.SendChan (made by gen_chan.py). -/
import Derived.Test.YtpgiinklbnlloaaChanClone
import Derived.Test.YtpgiinklbnlloaaChanThr
namespace Go.Proofs.Ytpgiinklbnlloaa
open Go.RowKit
set_option linter.unusedSimpArgs false
set_option linter.unusedVariables false
theorem LOwn.none {lo hi : Nat} {w : World} : LOwn lo hi w (.slice none 0 0) [] := ⟨Option.none, 0, rfl, Own.nil _ _ _ _ _, fun g e => by cases e⟩
theorem Own.litI {base g : Nat} {w : World} {y : Int} (hg : w.heap[g]? = some (.cells #[.int .i64 y] 3 (0, 0))) (hb : base ≤ g) : Own base 3 1 encI w (.slice (some ⟨g, 0, none⟩) 1 1) [y] :=
  Own.shut (cur := #[.int .i64 y]) rfl hb rfl hg (Nat.le_refl _) (by decide) rfl rfl
theorem irow_at {w : World} {a : Option Addr} {n c : Nat} {xs : List Int} (h : IRow w (.slice a n c) xs) : 0 < xs.length → ∃ b off, a = some ⟨b, off, none⟩ ∧ b < w.heap.size ∧ ∀ i x, xs[i]? = some x → w.cell? ⟨b, off + i, none⟩ = some (.int .i64 x) := by
  obtain ⟨a', c', e, _, _, h⟩ := h.look
  injection e with e1 _ _; subst e1; exact h
theorem irow_cap {w : World} {a : Option Addr} {n c : Nat} {xs : List Int} (h : IRow w (.slice a n c) xs) : xs.length ≤ c := by
  obtain ⟨a', c', e, l, _, h⟩ := h.look
  injection e with _ _ e3; omega
theorem row_rest {α : Type} {k : Nat} {enc : α → List Value} {w : World} {b off n cap : Nat} {q : List α} (h : Row k enc w (.slice (some ⟨b, off, none⟩) n cap) q) (hq : 0 < q.length) :
    Row k enc w (.slice (if cap = 1 then some ⟨b, off, none⟩ else some ⟨b, off + k, none⟩) (q.length - 1) (cap - 1)) (q.drop 1) := by
  cases q with
  | nil => simp at hq
  | cons x r => exact Row.tail h
def sendOk (c : ChanD) (t x : Int) : Bool := chanB c && thrB t && !decide (t ∈ chanThr c) && !c.closed && valB x
def send (c : ChanD) (t x : Int) : ChanD × List Int × Bool × Bool :=
  if sendOk c t x = true then
    if 0 < c.getters.length then (⟨c.room, c.items, c.senders, c.getters.drop 1, c.closed⟩, c.getters.take 1, true, true)
    else if (c.items.length : Int) < c.room then (⟨c.room, c.items ++ [x], c.senders, c.getters, c.closed⟩, [], true, true)
    else (⟨c.room, c.items, c.senders ++ [(t, x)], c.getters, c.closed⟩, [], false, true)
  else (ChanD.zero, [], false, false)
theorem send_no {c r : ChanD} {t x : Int} {y : List Int} {s b : Bool} (h : send c t x = (r, y, s, b)) (hn : sendOk c t x = false) : r = ChanD.zero ∧ y = [] ∧ s = false ∧ b = false := by
  unfold send at h; rw [if_neg (by rw [hn]; decide)] at h; injection h with h1 h; injection h with h2 h; injection h with h3 h4; exact ⟨h1.symm, h2.symm, h3.symm, h4.symm⟩
theorem send_get {c r : ChanD} {t x : Int} {y : List Int} {s b : Bool} (h : send c t x = (r, y, s, b)) (hn : sendOk c t x = true) (hg : 0 < c.getters.length) : r = ⟨c.room, c.items, c.senders, c.getters.drop 1, c.closed⟩ ∧ y = c.getters.take 1 ∧ s = true ∧ b = true := by
  unfold send at h; rw [if_pos hn, if_pos hg] at h; injection h with h1 h; injection h with h2 h; injection h with h3 h4; exact ⟨h1.symm, h2.symm, h3.symm, h4.symm⟩
theorem send_room {c r : ChanD} {t x : Int} {y : List Int} {s b : Bool} (h : send c t x = (r, y, s, b)) (hn : sendOk c t x = true) (hg : ¬ 0 < c.getters.length) (hr : (c.items.length : Int) < c.room) : r = ⟨c.room, c.items ++ [x], c.senders, c.getters, c.closed⟩ ∧ y = [] ∧ s = true ∧ b = true := by
  unfold send at h; rw [if_pos hn, if_neg hg, if_pos hr] at h; injection h with h1 h; injection h with h2 h; injection h with h3 h4; exact ⟨h1.symm, h2.symm, h3.symm, h4.symm⟩
theorem send_wait {c r : ChanD} {t x : Int} {y : List Int} {s b : Bool} (h : send c t x = (r, y, s, b)) (hn : sendOk c t x = true) (hg : ¬ 0 < c.getters.length) (hr : ¬ (c.items.length : Int) < c.room) : r = ⟨c.room, c.items, c.senders ++ [(t, x)], c.getters, c.closed⟩ ∧ y = [] ∧ s = false ∧ b = true := by
  unfold send at h; rw [if_pos hn, if_neg hg, if_neg hr] at h; injection h with h1 h; injection h with h2 h; injection h with h3 h4; exact ⟨h1.symm, h2.symm, h3.symm, h4.symm⟩
theorem sendOk_valid {c : ChanD} {t x : Int} (h : sendOk c t x = true) : chanB c = true := by
  simp only [sendOk, Bool.and_eq_true] at h; exact h.1.1.1.1
set_option maxHeartbeats 8000000 in
theorem SendChanO (v : Value) (c : ChanD) (t x : Int) (r : ChanD) (y : List Int) (s1 b1 : Bool) (w : World) (h : ChanRow w v c) (hn : c.items.length + c.senders.length + c.getters.length ≤ 1048576) (hr : send c t x = (r, y, s1, b1)) :
    Calls Try.prog 21 #[v, .int .i64 t, .int .i64 x] w fun e w' => ∃ v' u', e = .returned (.tuple #[v', u', .bool s1, .bool b1]) ∧ ChanOwn w.heap.size w'.heap.size w' v' r ∧ LOwn w.heap.size w'.heap.size w' u' y ∧ Below w.heap.size w w' := by
  have HP := Lib.hid h
  obtain ⟨aP1, pP1, aP2, pP2, aP3, pP3, rfl, hr1, hr2, hr3⟩ := h
  have HI1 := Lib.hid hr1; have HI2 := Lib.hid hr2; have HI3 := Lib.hid hr3; clear hr1 hr2 hr3
  have HR := Lib.hid hr; clear hr
  go_enter Try.func21, Try.ntmps21
  go_wp2_with (fail)
  refine (ChanValid_calls _ c _ (ChanRow.below HP.out (Below.alloc (Below.alloc (Below.refl _ _) (by first | omega | (simp only [szA, szS, szD, World.heap_drewN] at * <;> omega)) _) (by first | omega | (simp only [szA, szS, szD, World.heap_drewN] at * <;> omega)) _)) hn).mono ?_
  rintro e w1 ⟨rfl, hb⟩
  have B1 := Lib.hid (Below.trans (Below.alloc (Below.alloc (Below.refl _ _) (by first | omega | (simp only [szA, szS, szD, World.heap_drewN] at * <;> omega)) _) (by first | omega | (simp only [szA, szS, szD, World.heap_drewN] at * <;> omega)) _) (hb.mono (by first | omega | (simp only [szA, szS, szD, World.heap_drewN] at * <;> omega))) : Below w.heap.size w w1)
  have Z1 := hb.size
  have N1 : w.heap.size + 2 ≤ w1.heap.size := (by first | with_reducible exact Z1 | (simp only [szA, szS, szD] at Z1; omega))
  clear Z1
  have Xp_1 : Hid (w1.heap[w.heap.size]? = some (.cells #[.int .i64 c.room, .slice aP1 c.items.length pP1, .slice aP2 c.senders.length pP2, .slice aP3 c.getters.length pP3, .bool c.closed] 25 (0, 0))) := below_at hb (heap_up (heap_at' (n := w.heap.size) (by first | omega | (simp only [szA, szS, szD, World.heap_drewN] at * <;> omega))))
  have Xres_1 : Hid (w1.heap[w.heap.size + 1]? = some (.cells #[.int .i64 0, .slice none 0 0, .slice none 0 0, .slice none 0 0, .bool false] 25 (0, 0))) := below_at hb (heap_at' (n := w.heap.size + 1) (by first | omega | (simp only [szA, szS, szD, World.heap_drewN] at * <;> omega)))
  clear hb
  obtain ⟨cp1_0, cp1_1, cp1_2, cp1_3, cp1_4, fp1_0, fp1_1, fp1_2, fp1_3, fp1_4⟩ := box5 Xp_1.out; have lp1 := heap_lt Xp_1.out
  obtain ⟨cres1_0, cres1_1, cres1_2, cres1_3, cres1_4, fres1_0, fres1_1, fres1_2, fres1_3, fres1_4⟩ := box5 Xres_1.out; have lres1 := heap_lt Xres_1.out
  have S1 : w.heap.size ≤ w1.heap.size := (by omega)
  cases hv : chanB c
  · have HV := Lib.hid hv; clear hv
    obtain ⟨rfl, rfl, rfl, rfl⟩ := send_no HR.out (by simp [sendOk, HV.out])
    go_wp2_with (fail)
    refine bodyPost_ret (v := .tuple #[.agg #[.int .i64 0, .slice none 0 0, .slice none 0 0, .slice none 0 0, .bool false], .slice none 0 0, .bool false, .bool false]) (by simp [results, Try.results21, go_sem, cres1_0, cres1_1, cres1_2, cres1_3, cres1_4, lres1]) rfl ⟨_, _, rfl, ChanOwn.nils, LOwn.none, (sets5_below B1.out (by first | omega | (simp only [szA, szS, szD, World.heap_drewN] at * <;> omega)) (.int .i64 0) (.slice none 0 0) (.slice none 0 0) (.slice none 0 0) (.bool false))⟩
  · have HV := Lib.hid hv; obtain ⟨m1, m2⟩ := (chanB_true.1 hv).small; clear hv
    go_wp2_with (fail)
    refine (isThread_calls t _).mono ?_
    rintro e w' ⟨rfl, rfl⟩
    cases ht : thrB t
    · have HT := Lib.hid ht; clear ht
      obtain ⟨rfl, rfl, rfl, rfl⟩ := send_no HR.out (by simp [sendOk, HT.out])
      go_wp2_with (fail)
      refine bodyPost_ret (v := .tuple #[.agg #[.int .i64 0, .slice none 0 0, .slice none 0 0, .slice none 0 0, .bool false], .slice none 0 0, .bool false, .bool false]) (by simp [results, Try.results21, go_sem, cres1_0, cres1_1, cres1_2, cres1_3, cres1_4, lres1]) rfl ⟨_, _, rfl, ChanOwn.nils, LOwn.none, (sets5_below B1.out (by first | omega | (simp only [szA, szS, szD, World.heap_drewN] at * <;> omega)) (.int .i64 0) (.slice none 0 0) (.slice none 0 0) (.slice none 0 0) (.bool false))⟩
    · have HT := Lib.hid ht; clear ht
      go_wp2_with (fail)
      refine (threads_calls _ c _ (ChanRow.below HP.out B1.out) hn).mono ?_
      rintro e w2 ⟨vz, rfl, ho_z, hb⟩
      have B2 := Lib.hid (Below.trans B1.out (hb.mono (by first | omega | (simp only [szA, szS, szD, World.heap_drewN] at * <;> omega))) : Below w.heap.size w w2)
      have Z2 := hb.size
      have N2 : w1.heap.size ≤ w2.heap.size := (by first | with_reducible exact Z2 | (simp only [szA, szS, szD] at Z2; omega))
      clear Z2
      have Xp_2 := Lib.hid (below_at hb Xp_1.out)
      have Xres_2 := Lib.hid (below_at hb Xres_1.out)
      have Oz_2 := Lib.hid (Own.mono (base' := w.heap.size) ho_z.own (by first | omega | (simp only [szA, szS, szD, World.heap_drewN] at * <;> omega))); obtain ⟨az, pz, rfl, hx_z⟩ := ho_z; clear hx_z
      clear hb
      obtain ⟨cp2_0, cp2_1, cp2_2, cp2_3, cp2_4, fp2_0, fp2_1, fp2_2, fp2_3, fp2_4⟩ := box5 Xp_2.out; have lp2 := heap_lt Xp_2.out
      obtain ⟨cres2_0, cres2_1, cres2_2, cres2_3, cres2_4, fres2_0, fres2_1, fres2_2, fres2_3, fres2_4⟩ := box5 Xres_2.out; have lres2 := heap_lt Xres_2.out
      have S2 : w.heap.size ≤ w2.heap.size := (by omega)
      clear cp1_0 cp1_1 cp1_2 cp1_3 cp1_4 fp1_0 fp1_1 fp1_2 fp1_3 fp1_4 cres1_0 cres1_1 cres1_2 cres1_3 cres1_4 fres1_0 fres1_1 fres1_2 fres1_3 fres1_4
      go_wp2_with (fail)
      refine (ContainsI_calls _ (chanThr c) t _ (Oz_2.out.row encI_len)).mono ?_
      rintro e w' ⟨rfl, rfl⟩
      by_cases hin : t ∈ chanThr c
      · rw [decide_eq_true hin]
        have HI := Lib.hid hin; clear hin
        obtain ⟨rfl, rfl, rfl, rfl⟩ := send_no HR.out (by simp [sendOk, HI.out])
        go_wp2_with (fail)
        refine bodyPost_ret (v := .tuple #[.agg #[.int .i64 0, .slice none 0 0, .slice none 0 0, .slice none 0 0, .bool false], .slice none 0 0, .bool false, .bool false]) (by simp [results, Try.results21, go_sem, cres2_0, cres2_1, cres2_2, cres2_3, cres2_4, lres2]) rfl ⟨_, _, rfl, ChanOwn.nils, LOwn.none, (sets5_below B2.out (by first | omega | (simp only [szA, szS, szD, World.heap_drewN] at * <;> omega)) (.int .i64 0) (.slice none 0 0) (.slice none 0 0) (.slice none 0 0) (.bool false))⟩
      · rw [decide_eq_false hin]
        have HI := Lib.hid hin; clear hin
        cases hcl : c.closed
        · rw [hcl] at Xp_2 HP cp2_4
          have HCL := Lib.hid hcl; clear hcl
          go_wp2_with (fail)
          refine (isValue_calls x _).mono ?_
          rintro e w' ⟨rfl, rfl⟩
          cases hx : valB x
          · have HX := Lib.hid hx; clear hx
            obtain ⟨rfl, rfl, rfl, rfl⟩ := send_no HR.out (by simp [sendOk, HX.out])
            go_wp2_with (fail)
            refine bodyPost_ret (v := .tuple #[.agg #[.int .i64 0, .slice none 0 0, .slice none 0 0, .slice none 0 0, .bool false], .slice none 0 0, .bool false, .bool false]) (by simp [results, Try.results21, go_sem, cres2_0, cres2_1, cres2_2, cres2_3, cres2_4, lres2]) rfl ⟨_, _, rfl, ChanOwn.nils, LOwn.none, (sets5_below B2.out (by first | omega | (simp only [szA, szS, szD, World.heap_drewN] at * <;> omega)) (.int .i64 0) (.slice none 0 0) (.slice none 0 0) (.slice none 0 0) (.bool false))⟩
          · have HO := Lib.hid (show sendOk c t x = true by simp [sendOk, HV.out, HT.out, HI.out, HCL.out, hx]); clear hx HV HT HI
            go_wp2_with (fail)
            refine (chanClone_calls _ c _ (ChanRow.below HP.out B2.out) hn).mono ?_
            rintro e w3 ⟨vg, rfl, ho_g, hb⟩
            have B3 := Lib.hid (Below.trans B2.out (hb.mono (by first | omega | (simp only [szA, szS, szD, World.heap_drewN] at * <;> omega))) : Below w.heap.size w w3)
            have Z3 := hb.size
            have N3 : w2.heap.size ≤ w3.heap.size := (by first | with_reducible exact Z3 | (simp only [szA, szS, szD] at Z3; omega))
            clear Z3
            have Xp_3 := Lib.hid (below_at hb Xp_2.out)
            have Xres_3 := Lib.hid (below_at hb Xres_2.out)
            obtain ⟨ag1, pg1, ag2, pg2, ag3, pg3, rfl, ho1, hx1, ho2, hx2, ho3, hx3, ap13⟩ := ho_g
            have Og1_3 := Lib.hid (Own.mono (base' := w.heap.size) ho1 (by first | omega | (simp only [szA, szS, szD, World.heap_drewN] at * <;> omega))); clear ho1 hx1
            have Og2_3 := Lib.hid (Own.mono (base' := w.heap.size) ho2 (by first | omega | (simp only [szA, szS, szD, World.heap_drewN] at * <;> omega))); clear ho2 hx2
            have Og3_3 := Lib.hid (Own.mono (base' := w.heap.size) ho3 (by first | omega | (simp only [szA, szS, szD, World.heap_drewN] at * <;> omega))); clear ho3 hx3
            have APg13 := Lib.hid ap13; clear ap13
            clear hb
            obtain ⟨cp3_0, cp3_1, cp3_2, cp3_3, cp3_4, fp3_0, fp3_1, fp3_2, fp3_3, fp3_4⟩ := box5 Xp_3.out; have lp3 := heap_lt Xp_3.out
            obtain ⟨cres3_0, cres3_1, cres3_2, cres3_3, cres3_4, fres3_0, fres3_1, fres3_2, fres3_3, fres3_4⟩ := box5 Xres_3.out; have lres3 := heap_lt Xres_3.out
            have S3 : w.heap.size ≤ w3.heap.size := (by omega)
            clear cp2_0 cp2_1 cp2_2 cp2_3 cp2_4 fp2_0 fp2_1 fp2_2 fp2_3 fp2_4 cres2_0 cres2_1 cres2_2 cres2_3 cres2_4 fres2_0 fres2_1 fres2_2 fres2_3 fres2_4
            by_cases hq : 0 < c.getters.length
            · obtain ⟨e1, e2, rfl, rfl⟩ := send_get HR.out HO.out hq
              have d1 := len_ne hq
              have RG := Own.row encI_len (sets5_own Og3_3.out Xp_3.out (by decide) (.int .i64 c.room) (.slice ag1 c.items.length pg1) (.slice ag2 c.senders.length pg2) (.slice ag3 c.getters.length pg3) (.bool c.closed))
              obtain ⟨y, hy⟩ := get_ex hq
              obtain ⟨ys, hys⟩ : ∃ ys, c.getters.drop 1 = ys := ⟨_, rfl⟩
              have hyl : c.getters.length - 1 = ys.length := by rw [← hys]; simp
              have hyn : ys.length ≤ 6 := by omega
              obtain ⟨b0, off, hab, hblt, hc⟩ := irow_at (Own.row encI_len Og3_3.out) hq
              subst hab
              have ne_p : b0 ≠ w.heap.size := fun e => Og3_3.out.ne Xp_3.out (by decide) (congrArg some e); have nf_p := ne_p.symm
              have ne_res : b0 ≠ w.heap.size + 1 := fun e => Og3_3.out.ne Xres_3.out (by decide) (congrArg some e); have nf_res := ne_res.symm
              have c00 := hc 0 y hy
              rw [Nat.add_zero] at c00
              have HT1 := row_rest RG hq
              rw [hys, hyl] at HT1
              obtain ⟨A, hA⟩ : ∃ A : Addr, (if pg3 = 1 then (some (⟨b0, off, none⟩ : Addr)) else some ⟨b0, off + 1, none⟩) = some A := by split <;> exact ⟨_, rfl⟩
              rw [hA] at HT1
              have hcap := irow_cap RG
              have k1 : (1 : Int) ≤ (c.getters.length : Int) := by omega
              have k2 : 1 ≤ c.getters.length := by omega
              have k3 : (1 : Int) ≤ (pg3 : Int) := by omega
              have k4 : 1 ≤ pg3 := by omega
              have k5 : (c.getters.length : Int) ≤ (pg3 : Int) := by omega
              have HYT := Lib.hid (show c.getters.take 1 = [y] by cases hq' : c.getters with | nil => rw [hq'] at hy; cases hy | cons z r => rw [hq'] at hy; simp at hy; simp [hy])
              have HYS := Lib.hid hys; have HT2 := Lib.hid HT1; clear hc hy hys HT1 RG
              rw [HYS.out] at e1; rw [HYT.out] at e2; subst e1 e2
              go_wp2_with (fail)
              refine (cloneInts_calls _ ys _ (by exact HT2.out) (by omega)).mono ?_
              rintro e w4 ⟨vs, rfl, ho_sg, hb⟩
              have B4 := Lib.hid (Below.trans (sets5_below B3.out (by first | omega | (simp only [szA, szS, szD, World.heap_drewN] at * <;> omega)) (.int .i64 c.room) (.slice ag1 c.items.length pg1) (.slice ag2 c.senders.length pg2) (.slice (some ⟨b0, off, none⟩) c.getters.length pg3) (.bool c.closed)) (hb.mono (by first | omega | (simp only [szA, szS, szD, World.heap_drewN] at * <;> omega))) : Below w.heap.size w w4)
              have Z4 := hb.size
              have N4 : w3.heap.size ≤ w4.heap.size := (by first | with_reducible exact Z4 | (simp only [szA, szS, szD] at Z4; omega))
              clear Z4
              have Xp_4 := Lib.hid (below_at hb (sets5_at Xp_3.out (.int .i64 c.room) (.slice ag1 c.items.length pg1) (.slice ag2 c.senders.length pg2) (.slice (some ⟨b0, off, none⟩) c.getters.length pg3) (.bool c.closed)))
              have Xres_4 := Lib.hid (below_at hb (sets5_off Xres_3.out (by first | omega | (simp only [szA, szS, szD, World.heap_drewN] at * <;> omega)) (.int .i64 c.room) (.slice ag1 c.items.length pg1) (.slice ag2 c.senders.length pg2) (.slice (some ⟨b0, off, none⟩) c.getters.length pg3) (.bool c.closed)))
              have Og1_4 := Lib.hid ((sets5_own Og1_3.out Xp_3.out (by decide) (.int .i64 c.room) (.slice ag1 c.items.length pg1) (.slice ag2 c.senders.length pg2) (.slice (some ⟨b0, off, none⟩) c.getters.length pg3) (.bool c.closed)).kept hb)
              have Og2_4 := Lib.hid ((sets5_own Og2_3.out Xp_3.out (by decide) (.int .i64 c.room) (.slice ag1 c.items.length pg1) (.slice ag2 c.senders.length pg2) (.slice (some ⟨b0, off, none⟩) c.getters.length pg3) (.bool c.closed)).kept hb)
              have Og3_4 := Lib.hid ((sets5_own Og3_3.out Xp_3.out (by decide) (.int .i64 c.room) (.slice ag1 c.items.length pg1) (.slice ag2 c.senders.length pg2) (.slice (some ⟨b0, off, none⟩) c.getters.length pg3) (.bool c.closed)).kept hb)
              have APsg_g1 := Lib.hid (Own.later_apart (sets5_own Og1_3.out Xp_3.out (by decide) (.int .i64 c.room) (.slice ag1 c.items.length pg1) (.slice ag2 c.senders.length pg2) (.slice (some ⟨b0, off, none⟩) c.getters.length pg3) (.bool c.closed)) ho_sg.own (Nat.le_refl _))
              have APsg_g3 := Lib.hid (Own.later_apart (sets5_own Og3_3.out Xp_3.out (by decide) (.int .i64 c.room) (.slice ag1 c.items.length pg1) (.slice ag2 c.senders.length pg2) (.slice (some ⟨b0, off, none⟩) c.getters.length pg3) (.bool c.closed)) ho_sg.own (Nat.le_refl _))
              have Osg_4 := Lib.hid (Own.mono (base' := w.heap.size) ho_sg.own (by first | omega | (simp only [szA, szS, szD, World.heap_drewN] at * <;> omega))); obtain ⟨asg, psg, rfl, hx_sg⟩ := ho_sg; clear hx_sg
              clear hb
              obtain ⟨cp4_0, cp4_1, cp4_2, cp4_3, cp4_4, fp4_0, fp4_1, fp4_2, fp4_3, fp4_4⟩ := box5 Xp_4.out; have lp4 := heap_lt Xp_4.out
              obtain ⟨cres4_0, cres4_1, cres4_2, cres4_3, cres4_4, fres4_0, fres4_1, fres4_2, fres4_3, fres4_4⟩ := box5 Xres_4.out; have lres4 := heap_lt Xres_4.out
              have S4 : w.heap.size ≤ w4.heap.size := (by omega)
              clear cp3_0 cp3_1 cp3_2 cp3_3 cp3_4 fp3_0 fp3_1 fp3_2 fp3_3 fp3_4 cres3_0 cres3_1 cres3_2 cres3_3 cres3_4 fres3_0 fres3_1 fres3_2 fres3_3 fres3_4
              go_wp2_with (fail)
              refine bodyPost_ret (v := .tuple #[.agg #[.int .i64 c.room, .slice ag1 c.items.length pg1, .slice ag2 c.senders.length pg2, .slice asg ys.length psg, .bool c.closed], .slice (some ⟨w4.heap.size, 0, none⟩) 1 1, .bool true, .bool true]) (by simp [results, Try.results21, go_sem, cres4_0, cres4_1, cres4_2, cres4_3, cres4_4, lres4]) rfl ⟨_, _, rfl, ChanOwn.make ((sets5_own (Og1_4.out.setB (w.heap.size) 3 Xp_4.out (by decide) (.slice asg ys.length psg)) (set_off (a := ⟨w.heap.size, 3, none⟩) Xres_4.out (by first | omega | (simp only [szA, szS, szD, World.heap_drewN] at * <;> omega)) (.slice asg ys.length psg)) (by decide) (.int .i64 c.room) (.slice ag1 c.items.length pg1) (.slice ag2 c.senders.length pg2) (.slice asg ys.length psg) (.bool c.closed)).alloc _) ((sets5_own (Og2_4.out.setB (w.heap.size) 3 Xp_4.out (by decide) (.slice asg ys.length psg)) (set_off (a := ⟨w.heap.size, 3, none⟩) Xres_4.out (by first | omega | (simp only [szA, szS, szD, World.heap_drewN] at * <;> omega)) (.slice asg ys.length psg)) (by decide) (.int .i64 c.room) (.slice ag1 c.items.length pg1) (.slice ag2 c.senders.length pg2) (.slice asg ys.length psg) (.bool c.closed)).alloc _) ((sets5_own (Osg_4.out.setB (w.heap.size) 3 Xp_4.out (by decide) (.slice asg ys.length psg)) (set_off (a := ⟨w.heap.size, 3, none⟩) Xres_4.out (by first | omega | (simp only [szA, szS, szD, World.heap_drewN] at * <;> omega)) (.slice asg ys.length psg)) (by decide) (.int .i64 c.room) (.slice ag1 c.items.length pg1) (.slice ag2 c.senders.length pg2) (.slice asg ys.length psg) (.bool c.closed)).alloc _) (Nat.le_refl _) APsg_g1.out.symm, LOwn.of (Own.litI (heap_at' (n := w4.heap.size) (by first | omega | (simp only [szA, szS, szD, World.heap_drewN] at * <;> omega))) (by omega)) (Nat.le_refl _), (Below.alloc (sets5_below (below_setAt B4.out (w.heap.size) 3 (by first | omega | (simp only [szA, szS, szD, World.heap_drewN] at * <;> omega)) (.slice asg ys.length psg)) (by first | omega | (simp only [szA, szS, szD, World.heap_drewN] at * <;> omega)) (.int .i64 c.room) (.slice ag1 c.items.length pg1) (.slice ag2 c.senders.length pg2) (.slice asg ys.length psg) (.bool c.closed)) (by first | omega | (simp only [szA, szS, szD, World.heap_drewN] at * <;> omega)) _)⟩
            · have d1 := len_eq hq
              by_cases hr2 : (c.items.length : Int) < c.room
              · have d2 := decide_eq_true hr2
                obtain ⟨e1, rfl, rfl, rfl⟩ := send_room HR.out HO.out hq hr2
                have E1 := Lib.hid e1; clear e1
                go_wp2_with (at_builtin; refine wpList_snoc _ encI_len encI_one rfl _ _ 22 rfl 3 _ 8 Try.underlying22 info_int rfl (by decide) w.heap.size (.slice ag1 c.items.length pg1) c.items rfl (sets5_own Og1_3.out Xp_3.out (by decide) (.int .i64 c.room) (.slice ag1 c.items.length pg1) (.slice ag2 c.senders.length pg2) (.slice ag3 c.getters.length pg3) (.bool c.closed)) x _ rfl _ rfl (by first | omega | (simp only [szA, szS, szD, World.heap_drewN] at * <;> omega)) (by decide) (by omega) (by first | omega | (simp only [szA, szS, szD, World.heap_drewN] at * <;> omega)) ?_; intro ad4 cp4 w4 hown hg hat; obtain ⟨g1L4, hg1L4⟩ : ∃ l, c.items ++ [x] = l := ⟨_, rfl⟩; have lg1L4 : c.items.length + 1 = g1L4.length := (by rw [← hg1L4, List.length_append, List.length_singleton]); rw [hg1L4, lg1L4] at hown; rw [lg1L4]; have Hg1L4 := Lib.hid hg1L4; clear hg1L4; have Kg1L4 := Lib.hid lg1L4; clear lg1L4; rw [Kg1L4.out] at hat; have ANg1_g3_4 := Lib.hid (Apart.push (v' := .slice ad4 g1L4.length cp4) APg13.out hat Og3_3.out.hi (by first | omega | (simp only [szA, szS]; omega))); clear hat; have Xp_4 := Lib.hid (grown_at2 hg (heap_up (sets5_at Xp_3.out (.int .i64 c.room) (.slice ag1 c.items.length pg1) (.slice ag2 c.senders.length pg2) (.slice ag3 c.getters.length pg3) (.bool c.closed))) (Og1_3.out.ne Xp_3.out (by decide))); have Xres_4 := Lib.hid (grown_at2 hg (heap_up (sets5_off Xres_3.out (by first | omega | (simp only [szA, szS, szD, World.heap_drewN] at * <;> omega)) (.int .i64 c.room) (.slice ag1 c.items.length pg1) (.slice ag2 c.senders.length pg2) (.slice ag3 c.getters.length pg3) (.bool c.closed))) (Og1_3.out.ne Xres_3.out (by decide))); have Og2_4 := Lib.hid (((sets5_own Og2_3.out Xp_3.out (by decide) (.int .i64 c.room) (.slice ag1 c.items.length pg1) (.slice ag2 c.senders.length pg2) (.slice ag3 c.getters.length pg3) (.bool c.closed)).alloc _).apart hg (Own.apart_types Og1_3.out Og2_3.out (by decide))); have Og3_4 := Lib.hid (((sets5_own Og3_3.out Xp_3.out (by decide) (.int .i64 c.room) (.slice ag1 c.items.length pg1) (.slice ag2 c.senders.length pg2) (.slice ag3 c.getters.length pg3) (.bool c.closed)).alloc _).apart hg APg13.out); have Og1_4 := Lib.hid hown; have B4 := Lib.hid (Below.grown (Below.alloc (sets5_below B3.out (by first | omega | (simp only [szA, szS, szD, World.heap_drewN] at * <;> omega)) (.int .i64 c.room) (.slice ag1 c.items.length pg1) (.slice ag2 c.senders.length pg2) (.slice ag3 c.getters.length pg3) (.bool c.closed)) (by first | omega | (simp only [szA, szS, szD, World.heap_drewN] at * <;> omega)) _) hg (by first | omega | (simp only [szA, szS, szD, World.heap_drewN]; omega)) (fun g e => Nat.le_trans (by omega) (Og1_3.out.blk g e))); have N4 : w3.heap.size + 1 ≤ w4.heap.size := (by first | with_reducible exact hg.size | (have := hg.size; simp only [szA, szS, szD] at this; omega)); clear hown hg; obtain ⟨cp4_0, cp4_1, cp4_2, cp4_3, cp4_4, fp4_0, fp4_1, fp4_2, fp4_3, fp4_4⟩ := box5 Xp_4.out; have lp4 := heap_lt Xp_4.out; obtain ⟨cres4_0, cres4_1, cres4_2, cres4_3, cres4_4, fres4_0, fres4_1, fres4_2, fres4_3, fres4_4⟩ := box5 Xres_4.out; have lres4 := heap_lt Xres_4.out; have S4 : w.heap.size ≤ w4.heap.size := (by omega))
                clear cp3_0 cp3_1 cp3_2 cp3_3 cp3_4 fp3_0 fp3_1 fp3_2 fp3_3 fp3_4 cres3_0 cres3_1 cres3_2 cres3_3 cres3_4 fres3_0 fres3_1 fres3_2 fres3_3 fres3_4
                have hrz : r = ⟨c.room, g1L4, c.senders, c.getters, c.closed⟩ := by rw [E1.out, Hg1L4.out]
                have HRZ := Lib.hid hrz; clear hrz
                have hzl : g1L4.length ≤ 10 := by have := Kg1L4.out; omega
                go_wp2_with (fail)
                refine (chanClone_calls _ r _ (by rw [HRZ.out]; exact ⟨_, _, _, _, _, _, rfl, Own.row encI_len (Og1_4.out.setB (w.heap.size) 1 Xp_4.out (by decide) (.slice ad4 g1L4.length cp4)), Own.row encP_len (Og2_4.out.setB (w.heap.size) 1 Xp_4.out (by decide) (.slice ad4 g1L4.length cp4)), Own.row encI_len (Og3_4.out.setB (w.heap.size) 1 Xp_4.out (by decide) (.slice ad4 g1L4.length cp4))⟩) (by rw [HRZ.out]; simp only []; omega)).mono ?_
                rintro e w5 ⟨vr, rfl, ho_r, hb⟩
                have B5 := Lib.hid (Below.trans (below_setAt B4.out (w.heap.size) 1 (by first | omega | (simp only [szA, szS, szD, World.heap_drewN] at * <;> omega)) (.slice ad4 g1L4.length cp4)) (hb.mono (by first | omega | (simp only [szA, szS, szD, World.heap_drewN] at * <;> omega))) : Below w.heap.size w w5)
                have Z5 := hb.size
                have N5 : w4.heap.size ≤ w5.heap.size := (by first | with_reducible exact Z5 | (simp only [szA, szS, szD] at Z5; omega))
                clear Z5
                have Xp_5 := Lib.hid (below_at hb (set_at (a := ⟨w.heap.size, 1, none⟩) Xp_4.out rfl rfl (.slice ad4 g1L4.length cp4)))
                have Xres_5 := Lib.hid (below_at hb (set_off (a := ⟨w.heap.size, 1, none⟩) Xres_4.out (by first | omega | (simp only [szA, szS, szD, World.heap_drewN] at * <;> omega)) (.slice ad4 g1L4.length cp4)))
                have Og1_5 := Lib.hid ((Og1_4.out.setB (w.heap.size) 1 Xp_4.out (by decide) (.slice ad4 g1L4.length cp4)).kept hb)
                have Og2_5 := Lib.hid ((Og2_4.out.setB (w.heap.size) 1 Xp_4.out (by decide) (.slice ad4 g1L4.length cp4)).kept hb)
                have Og3_5 := Lib.hid ((Og3_4.out.setB (w.heap.size) 1 Xp_4.out (by decide) (.slice ad4 g1L4.length cp4)).kept hb)
                have Or_5 := Lib.hid (ho_r.mono (lo' := w.heap.size) (by first | omega | (simp only [szA, szS, szD, World.heap_drewN] at * <;> omega)) (Nat.le_refl _)); obtain ⟨ar1, pr1, ar2, pr2, ar3, pr3, rfl, hx_r⟩ := ho_r; clear hx_r
                clear hb
                obtain ⟨cp5_0, cp5_1, cp5_2, cp5_3, cp5_4, fp5_0, fp5_1, fp5_2, fp5_3, fp5_4⟩ := box5 Xp_5.out; have lp5 := heap_lt Xp_5.out
                obtain ⟨cres5_0, cres5_1, cres5_2, cres5_3, cres5_4, fres5_0, fres5_1, fres5_2, fres5_3, fres5_4⟩ := box5 Xres_5.out; have lres5 := heap_lt Xres_5.out
                have S5 : w.heap.size ≤ w5.heap.size := (by omega)
                clear cp4_0 cp4_1 cp4_2 cp4_3 cp4_4 fp4_0 fp4_1 fp4_2 fp4_3 fp4_4 cres4_0 cres4_1 cres4_2 cres4_3 cres4_4 fres4_0 fres4_1 fres4_2 fres4_3 fres4_4
                go_wp2_with (fail)
                refine bodyPost_ret (v := .tuple #[.agg #[.int .i64 r.room, .slice ar1 r.items.length pr1, .slice ar2 r.senders.length pr2, .slice ar3 r.getters.length pr3, .bool r.closed], .slice none 0 0, .bool true, .bool true]) (by simp [results, Try.results21, go_sem, cres5_0, cres5_1, cres5_2, cres5_3, cres5_4, lres5]) rfl ⟨_, _, rfl, (Or_5.out.grownX (sets5_grown _ (w.heap.size + 1) (.int .i64 r.room) (.slice ar1 r.items.length pr1) (.slice ar2 r.senders.length pr2) (.slice ar3 r.getters.length pr3) (.bool r.closed)) Xres_5.out (by decide)).mono (by first | omega | (simp only [szA, szS, szD, World.heap_drewN] at * <;> omega)) (by first | omega | (simp only [szA, szS, szD, World.heap_drewN] at * <;> omega)), LOwn.none, (sets5_below B5.out (by first | omega | (simp only [szA, szS, szD, World.heap_drewN] at * <;> omega)) (.int .i64 r.room) (.slice ar1 r.items.length pr1) (.slice ar2 r.senders.length pr2) (.slice ar3 r.getters.length pr3) (.bool r.closed))⟩
              · have d2 := decide_eq_false hr2
                obtain ⟨e1, rfl, rfl, rfl⟩ := send_wait HR.out HO.out hq hr2
                have E1 := Lib.hid e1; clear e1
                go_wp2_with (at_builtin; refine wpList_snoc _ encP_len one_pair rfl _ _ 23 rfl 58 _ 16 Try.underlying23 info_Letter rfl (by decide) w.heap.size (.slice ag2 c.senders.length pg2) c.senders rfl (sets5_own Og2_3.out Xp_3.out (by decide) (.int .i64 c.room) (.slice ag1 c.items.length pg1) (.slice ag2 c.senders.length pg2) (.slice ag3 c.getters.length pg3) (.bool c.closed)) (t, x) _ rfl _ rfl (by first | omega | (simp only [szA, szS, szD, World.heap_drewN] at * <;> omega)) (by decide) (by omega) (by first | omega | (simp only [szA, szS, szD, World.heap_drewN] at * <;> omega)) ?_; intro ad4 cp4 w4 hown hg hat; obtain ⟨g2L4, hg2L4⟩ : ∃ l, c.senders ++ [(t, x)] = l := ⟨_, rfl⟩; have lg2L4 : c.senders.length + 1 = g2L4.length := (by rw [← hg2L4, List.length_append, List.length_singleton]); rw [hg2L4, lg2L4] at hown; rw [lg2L4]; have Hg2L4 := Lib.hid hg2L4; clear hg2L4; have Kg2L4 := Lib.hid lg2L4; clear lg2L4; rw [Kg2L4.out] at hat; clear hat; have Xp_4 := Lib.hid (grown_at2 hg (heap_up (sets5_at Xp_3.out (.int .i64 c.room) (.slice ag1 c.items.length pg1) (.slice ag2 c.senders.length pg2) (.slice ag3 c.getters.length pg3) (.bool c.closed))) (Og2_3.out.ne Xp_3.out (by decide))); have Xres_4 := Lib.hid (grown_at2 hg (heap_up (sets5_off Xres_3.out (by first | omega | (simp only [szA, szS, szD, World.heap_drewN] at * <;> omega)) (.int .i64 c.room) (.slice ag1 c.items.length pg1) (.slice ag2 c.senders.length pg2) (.slice ag3 c.getters.length pg3) (.bool c.closed))) (Og2_3.out.ne Xres_3.out (by decide))); have Og1_4 := Lib.hid (((sets5_own Og1_3.out Xp_3.out (by decide) (.int .i64 c.room) (.slice ag1 c.items.length pg1) (.slice ag2 c.senders.length pg2) (.slice ag3 c.getters.length pg3) (.bool c.closed)).alloc _).apart hg (Own.apart_types Og2_3.out Og1_3.out (by decide))); have Og3_4 := Lib.hid (((sets5_own Og3_3.out Xp_3.out (by decide) (.int .i64 c.room) (.slice ag1 c.items.length pg1) (.slice ag2 c.senders.length pg2) (.slice ag3 c.getters.length pg3) (.bool c.closed)).alloc _).apart hg (Own.apart_types Og2_3.out Og3_3.out (by decide))); have Og2_4 := Lib.hid hown; have B4 := Lib.hid (Below.grown (Below.alloc (sets5_below B3.out (by first | omega | (simp only [szA, szS, szD, World.heap_drewN] at * <;> omega)) (.int .i64 c.room) (.slice ag1 c.items.length pg1) (.slice ag2 c.senders.length pg2) (.slice ag3 c.getters.length pg3) (.bool c.closed)) (by first | omega | (simp only [szA, szS, szD, World.heap_drewN] at * <;> omega)) _) hg (by first | omega | (simp only [szA, szS, szD, World.heap_drewN]; omega)) (fun g e => Nat.le_trans (by omega) (Og2_3.out.blk g e))); have N4 : w3.heap.size + 1 ≤ w4.heap.size := (by first | with_reducible exact hg.size | (have := hg.size; simp only [szA, szS, szD] at this; omega)); clear hown hg; obtain ⟨cp4_0, cp4_1, cp4_2, cp4_3, cp4_4, fp4_0, fp4_1, fp4_2, fp4_3, fp4_4⟩ := box5 Xp_4.out; have lp4 := heap_lt Xp_4.out; obtain ⟨cres4_0, cres4_1, cres4_2, cres4_3, cres4_4, fres4_0, fres4_1, fres4_2, fres4_3, fres4_4⟩ := box5 Xres_4.out; have lres4 := heap_lt Xres_4.out; have S4 : w.heap.size ≤ w4.heap.size := (by omega))
                clear cp3_0 cp3_1 cp3_2 cp3_3 cp3_4 fp3_0 fp3_1 fp3_2 fp3_3 fp3_4 cres3_0 cres3_1 cres3_2 cres3_3 cres3_4 fres3_0 fres3_1 fres3_2 fres3_3 fres3_4
                have hrz : r = ⟨c.room, c.items, g2L4, c.getters, c.closed⟩ := by rw [E1.out, Hg2L4.out]
                have HRZ := Lib.hid hrz; clear hrz
                have hzl : g2L4.length ≤ 10 := by have := Kg2L4.out; omega
                go_wp2_with (fail)
                refine (chanClone_calls _ r _ (by rw [HRZ.out]; exact ⟨_, _, _, _, _, _, rfl, Own.row encI_len (Og1_4.out.setB (w.heap.size) 2 Xp_4.out (by decide) (.slice ad4 g2L4.length cp4)), Own.row encP_len (Og2_4.out.setB (w.heap.size) 2 Xp_4.out (by decide) (.slice ad4 g2L4.length cp4)), Own.row encI_len (Og3_4.out.setB (w.heap.size) 2 Xp_4.out (by decide) (.slice ad4 g2L4.length cp4))⟩) (by rw [HRZ.out]; simp only []; omega)).mono ?_
                rintro e w5 ⟨vr, rfl, ho_r, hb⟩
                have B5 := Lib.hid (Below.trans (below_setAt B4.out (w.heap.size) 2 (by first | omega | (simp only [szA, szS, szD, World.heap_drewN] at * <;> omega)) (.slice ad4 g2L4.length cp4)) (hb.mono (by first | omega | (simp only [szA, szS, szD, World.heap_drewN] at * <;> omega))) : Below w.heap.size w w5)
                have Z5 := hb.size
                have N5 : w4.heap.size ≤ w5.heap.size := (by first | with_reducible exact Z5 | (simp only [szA, szS, szD] at Z5; omega))
                clear Z5
                have Xp_5 := Lib.hid (below_at hb (set_at (a := ⟨w.heap.size, 2, none⟩) Xp_4.out rfl rfl (.slice ad4 g2L4.length cp4)))
                have Xres_5 := Lib.hid (below_at hb (set_off (a := ⟨w.heap.size, 2, none⟩) Xres_4.out (by first | omega | (simp only [szA, szS, szD, World.heap_drewN] at * <;> omega)) (.slice ad4 g2L4.length cp4)))
                have Og1_5 := Lib.hid ((Og1_4.out.setB (w.heap.size) 2 Xp_4.out (by decide) (.slice ad4 g2L4.length cp4)).kept hb)
                have Og2_5 := Lib.hid ((Og2_4.out.setB (w.heap.size) 2 Xp_4.out (by decide) (.slice ad4 g2L4.length cp4)).kept hb)
                have Og3_5 := Lib.hid ((Og3_4.out.setB (w.heap.size) 2 Xp_4.out (by decide) (.slice ad4 g2L4.length cp4)).kept hb)
                have Or_5 := Lib.hid (ho_r.mono (lo' := w.heap.size) (by first | omega | (simp only [szA, szS, szD, World.heap_drewN] at * <;> omega)) (Nat.le_refl _)); obtain ⟨ar1, pr1, ar2, pr2, ar3, pr3, rfl, hx_r⟩ := ho_r; clear hx_r
                clear hb
                obtain ⟨cp5_0, cp5_1, cp5_2, cp5_3, cp5_4, fp5_0, fp5_1, fp5_2, fp5_3, fp5_4⟩ := box5 Xp_5.out; have lp5 := heap_lt Xp_5.out
                obtain ⟨cres5_0, cres5_1, cres5_2, cres5_3, cres5_4, fres5_0, fres5_1, fres5_2, fres5_3, fres5_4⟩ := box5 Xres_5.out; have lres5 := heap_lt Xres_5.out
                have S5 : w.heap.size ≤ w5.heap.size := (by omega)
                clear cp4_0 cp4_1 cp4_2 cp4_3 cp4_4 fp4_0 fp4_1 fp4_2 fp4_3 fp4_4 cres4_0 cres4_1 cres4_2 cres4_3 cres4_4 fres4_0 fres4_1 fres4_2 fres4_3 fres4_4
                go_wp2_with (fail)
                refine bodyPost_ret (v := .tuple #[.agg #[.int .i64 r.room, .slice ar1 r.items.length pr1, .slice ar2 r.senders.length pr2, .slice ar3 r.getters.length pr3, .bool r.closed], .slice none 0 0, .bool false, .bool true]) (by simp [results, Try.results21, go_sem, cres5_0, cres5_1, cres5_2, cres5_3, cres5_4, lres5]) rfl ⟨_, _, rfl, (Or_5.out.grownX (sets5_grown _ (w.heap.size + 1) (.int .i64 r.room) (.slice ar1 r.items.length pr1) (.slice ar2 r.senders.length pr2) (.slice ar3 r.getters.length pr3) (.bool r.closed)) Xres_5.out (by decide)).mono (by first | omega | (simp only [szA, szS, szD, World.heap_drewN] at * <;> omega)) (by first | omega | (simp only [szA, szS, szD, World.heap_drewN] at * <;> omega)), LOwn.none, (sets5_below B5.out (by first | omega | (simp only [szA, szS, szD, World.heap_drewN] at * <;> omega)) (.int .i64 r.room) (.slice ar1 r.items.length pr1) (.slice ar2 r.senders.length pr2) (.slice ar3 r.getters.length pr3) (.bool r.closed))⟩
        · rw [hcl] at Xp_2 HP cp2_4
          have HCL := Lib.hid hcl; clear hcl
          obtain ⟨rfl, rfl, rfl, rfl⟩ := send_no HR.out (by simp [sendOk, HCL.out])
          go_wp2_with (fail)
          refine bodyPost_ret (v := .tuple #[.agg #[.int .i64 0, .slice none 0 0, .slice none 0 0, .slice none 0 0, .bool false], .slice none 0 0, .bool false, .bool false]) (by simp [results, Try.results21, go_sem, cres2_0, cres2_1, cres2_2, cres2_3, cres2_4, lres2]) rfl ⟨_, _, rfl, ChanOwn.nils, LOwn.none, (sets5_below B2.out (by first | omega | (simp only [szA, szS, szD, World.heap_drewN] at * <;> omega)) (.int .i64 0) (.slice none 0 0) (.slice none 0 0) (.slice none 0 0) (.bool false))⟩
end Go.Proofs.Ytpgiinklbnlloaa
