/- spec.GetChan (made by gen_chan.py). -/
import Derived.Test.YtpgiinklbnlloaaChanSendS
namespace Go.Proofs.Ytpgiinklbnlloaa
open Go.RowKit
set_option linter.unusedSimpArgs false
set_option linter.unusedVariables false
def getOk (c : ChanD) (t : Int) : Bool := chanB c && thrB t && !decide (t ∈ chanThr c)
def getC (c : ChanD) (t : Int) : ChanD × Int × Int × List Int × Bool :=
  if getOk c t = true then
    match c.items ++ (c.senders.take 1).map (·.2) with
    | x :: q => (⟨c.room, q, c.senders.drop 1, c.getters, c.closed⟩, x, 1, (c.senders.take 1).map (·.1), true)
    | [] => if c.closed = true then (c, 0, 2, [], true) else (⟨c.room, c.items, c.senders, c.getters ++ [t], c.closed⟩, 0, 0, [], true)
  else (ChanD.zero, 0, 0, [], false)
theorem get_no {c r : ChanD} {t v s : Int} {y : List Int} {b : Bool} (h : getC c t = (r, v, s, y, b)) (hn : getOk c t = false) : r = ChanD.zero ∧ v = 0 ∧ s = 0 ∧ y = [] ∧ b = false := by
  unfold getC at h; rw [if_neg (by rw [hn]; decide)] at h; injection h with h1 h; injection h with h2 h; injection h with h3 h; injection h with h4 h5; exact ⟨h1.symm, h2.symm, h3.symm, h4.symm, h5.symm⟩
theorem get_send {c r : ChanD} {t v s x : Int} {y zs : List Int} {b : Bool} {z : Int × Int} (h : getC c t = (r, v, s, y, b)) (hn : getOk c t = true) (hz : c.senders[0]? = some z) (hzs : c.items ++ [z.2] = zs) (hx : zs[0]? = some x) :
    r = ⟨c.room, zs.drop 1, c.senders.drop 1, c.getters, c.closed⟩ ∧ x = v ∧ s = 1 ∧ y = [z.1] ∧ b = true := by
  have ht : c.senders.take 1 = [z] := by
    cases hq : c.senders with
    | nil => rw [hq] at hz; cases hz
    | cons a q => rw [hq] at hz; simp at hz; simp [hz]
  unfold getC at h; rw [if_pos hn, ht] at h
  simp only [List.map_cons, List.map_nil] at h
  rw [hzs] at h
  cases hq : zs with
  | nil => rw [hq] at hx; cases hx
  | cons a q =>
    rw [hq] at h hx
    simp only [List.getElem?_cons_zero, Option.some.injEq] at hx
    subst hx
    injection h with h1 h; injection h with h2 h; injection h with h3 h; injection h with h4 h5; exact ⟨h1.symm, h2, h3.symm, h4.symm, h5.symm⟩
theorem get_item {c r : ChanD} {t v s x : Int} {y : List Int} {b : Bool} (h : getC c t = (r, v, s, y, b)) (hn : getOk c t = true) (hz : ¬ 0 < c.senders.length) (hx : c.items[0]? = some x) :
    r = ⟨c.room, c.items.drop 1, c.senders, c.getters, c.closed⟩ ∧ x = v ∧ s = 1 ∧ y = [] ∧ b = true := by
  have hs : c.senders = [] := List.length_eq_zero_iff.1 (by omega)
  unfold getC at h; rw [if_pos hn, hs] at h
  simp only [List.take_nil, List.map_nil, List.append_nil, List.drop_nil] at h
  cases hq : c.items with
  | nil => rw [hq] at hx; cases hx
  | cons a q =>
    rw [hq] at h hx
    simp only [List.getElem?_cons_zero, Option.some.injEq] at hx
    subst hx
    injection h with h1 h; injection h with h2 h; injection h with h3 h; injection h with h4 h5; exact ⟨by rw [← h1, hs]; rfl, h2, h3.symm, h4.symm, h5.symm⟩
theorem get_none {c r : ChanD} {t v s : Int} {y : List Int} {b : Bool} (h : getC c t = (r, v, s, y, b)) (hn : getOk c t = true) (hz : ¬ 0 < c.senders.length) (hx : ¬ 0 < c.items.length) :
    (c.closed = true → c = r ∧ v = 0 ∧ s = 2 ∧ y = [] ∧ b = true) ∧ (c.closed = false → r = ⟨c.room, c.items, c.senders, c.getters ++ [t], c.closed⟩ ∧ v = 0 ∧ s = 0 ∧ y = [] ∧ b = true) := by
  have hs : c.senders = [] := List.length_eq_zero_iff.1 (by omega)
  have hi : c.items = [] := List.length_eq_zero_iff.1 (by omega)
  unfold getC at h; rw [if_pos hn] at h
  simp only [hs, hi, List.take_nil, List.map_nil, List.append_nil] at h
  rw [hs, hi]
  constructor
  · intro hc; rw [if_pos hc] at h; injection h with h1 h; injection h with h2 h; injection h with h3 h; injection h with h4 h5; exact ⟨h1, h2.symm, h3.symm, h4.symm, h5.symm⟩
  · intro hc; rw [if_neg (by rw [hc]; decide)] at h; injection h with h1 h; injection h with h2 h; injection h with h3 h; injection h with h4 h5; exact ⟨h1.symm, h2.symm, h3.symm, h4.symm, h5.symm⟩
theorem prow_at {w : World} {a : Option Addr} {n c : Nat} {xs : List (Int × Int)} (h : PRow w (.slice a n c) xs) : 0 < xs.length → ∃ b off, a = some ⟨b, off, none⟩ ∧ b < w.heap.size ∧
    ∀ i x, xs[i]? = some x → w.cell? ⟨b, off + i * 2, none⟩ = some (.int .i64 x.1) ∧ w.cell? ⟨b, off + i * 2 + 1, none⟩ = some (.int .i64 x.2) := by
  obtain ⟨a', c', e, _, _, h⟩ := h.look
  injection e with e1 _ _; subst e1; exact h
theorem prow_cap {w : World} {a : Option Addr} {n c : Nat} {xs : List (Int × Int)} (h : PRow w (.slice a n c) xs) : xs.length ≤ c := by
  obtain ⟨a', c', e, l, _, h⟩ := h.look
  injection e with _ _ e3; omega
set_option maxHeartbeats 8000000 in
theorem sGetChanO (v : Value) (c : ChanD) (t : Int) (r : ChanD) (x s1 : Int) (y : List Int) (b1 : Bool) (w : World) (h : ChanRow w v c) (hn : c.items.length + c.senders.length + c.getters.length ≤ 1048576) (hr : getC c t = (r, x, s1, y, b1)) :
    Calls Try.prog 39 #[v, .int .i64 t] w fun e w' => ∃ v' u', e = .returned (.tuple #[v', .int .i64 x, .int .i64 s1, u', .bool b1]) ∧ ChanOwn w.heap.size w'.heap.size w' v' r ∧ LOwn w.heap.size w'.heap.size w' u' y ∧ Below w.heap.size w w' := by
  have HP := Lib.hid h
  obtain ⟨aP1, pP1, aP2, pP2, aP3, pP3, rfl, hr1, hr2, hr3⟩ := h
  have HI1 := Lib.hid hr1; have HI2 := Lib.hid hr2; have HI3 := Lib.hid hr3; clear hr1 hr2 hr3
  have HR := Lib.hid hr; clear hr
  go_enter Try.func39, Try.ntmps39
  go_wp2_with (fail)
  refine (sChanValid_calls _ c _ (ChanRow.below HP.out (Below.alloc (Below.alloc (Below.alloc (Below.refl _ _) (by first | omega | (simp only [szA, szS, szD, World.heap_drewN] at * <;> omega)) _) (by first | omega | (simp only [szA, szS, szD, World.heap_drewN] at * <;> omega)) _) (by first | omega | (simp only [szA, szS, szD, World.heap_drewN] at * <;> omega)) _)) hn).mono ?_
  rintro e w1 ⟨rfl, hb⟩
  have ho_nn : Own w.heap.size 3 1 encI w1 (.slice (some ⟨w.heap.size + 2, 0, none⟩) 0 0) ([] : List Int) := Own.empty (below_at hb (heap_at' (n := w.heap.size + 2) (by first | omega | (simp only [szA, szS, szD, World.heap_drewN] at * <;> omega)))) (by omega)
  have B1 := Lib.hid (Below.trans (Below.alloc (Below.alloc (Below.alloc (Below.refl _ _) (by first | omega | (simp only [szA, szS, szD, World.heap_drewN] at * <;> omega)) _) (by first | omega | (simp only [szA, szS, szD, World.heap_drewN] at * <;> omega)) _) (by first | omega | (simp only [szA, szS, szD, World.heap_drewN] at * <;> omega)) _) (hb.mono (by first | omega | (simp only [szA, szS, szD, World.heap_drewN] at * <;> omega))) : Below w.heap.size w w1)
  have Z1 := hb.size
  have N1 : w.heap.size + 3 ≤ w1.heap.size := (by first | with_reducible exact Z1 | (simp only [szA, szS, szD] at Z1; omega))
  clear Z1
  have Xp_1 : Hid (w1.heap[w.heap.size]? = some (.cells #[.int .i64 c.room, .slice aP1 c.items.length pP1, .slice aP2 c.senders.length pP2, .slice aP3 c.getters.length pP3, .bool c.closed] 25 (0, 0))) := below_at hb (heap_up (heap_up (heap_at' (n := w.heap.size) (by first | omega | (simp only [szA, szS, szD, World.heap_drewN] at * <;> omega)))))
  have Xres_1 : Hid (w1.heap[w.heap.size + 1]? = some (.cells #[.int .i64 0, .slice none 0 0, .slice none 0 0, .slice none 0 0, .bool false] 25 (0, 0))) := below_at hb (heap_up (heap_at' (n := w.heap.size + 1) (by first | omega | (simp only [szA, szS, szD, World.heap_drewN] at * <;> omega))))
  have Onn_1 := Lib.hid (Own.mono (base' := w.heap.size) ho_nn (by first | omega | (simp only [szA, szS, szD, World.heap_drewN] at * <;> omega))); clear ho_nn
  clear hb
  obtain ⟨cp1_0, cp1_1, cp1_2, cp1_3, cp1_4, fp1_0, fp1_1, fp1_2, fp1_3, fp1_4⟩ := box5 Xp_1.out; have lp1 := heap_lt Xp_1.out
  obtain ⟨cres1_0, cres1_1, cres1_2, cres1_3, cres1_4, fres1_0, fres1_1, fres1_2, fres1_3, fres1_4⟩ := box5 Xres_1.out; have lres1 := heap_lt Xres_1.out
  have S1 : w.heap.size ≤ w1.heap.size := (by omega)
  cases hv : chanB c
  · have HV := Lib.hid hv; clear hv
    obtain ⟨rfl, rfl, rfl, rfl, rfl⟩ := get_no HR.out (by simp [getOk, HV.out])
    go_wp2_with (fail)
    refine bodyPost_ret (v := .tuple #[.agg #[.int .i64 0, .slice none 0 0, .slice none 0 0, .slice none 0 0, .bool false], .int .i64 0, .int .i64 0, .slice (some ⟨w.heap.size + 2, 0, none⟩) 0 0, .bool false]) (by simp [results, Try.results39, go_sem, cres1_0, cres1_1, cres1_2, cres1_3, cres1_4, lres1]) rfl ⟨_, _, rfl, ChanOwn.nils, LOwn.of (sets5_own Onn_1.out Xres_1.out (by decide) (.int .i64 0) (.slice none 0 0) (.slice none 0 0) (.slice none 0 0) (.bool false)) (Nat.le_refl _), (sets5_below B1.out (by first | omega | (simp only [szA, szS, szD, World.heap_drewN] at * <;> omega)) (.int .i64 0) (.slice none 0 0) (.slice none 0 0) (.slice none 0 0) (.bool false))⟩
  · have HV := Lib.hid hv; obtain ⟨m1, m2⟩ := (chanB_true.1 hv).small; clear hv
    go_wp2_with (fail)
    refine (l1Thread_calls t _).mono ?_
    rintro e w' ⟨rfl, rfl⟩
    cases ht : thrB t
    · have HT := Lib.hid ht; clear ht
      obtain ⟨rfl, rfl, rfl, rfl, rfl⟩ := get_no HR.out (by simp [getOk, HT.out])
      go_wp2_with (fail)
      refine bodyPost_ret (v := .tuple #[.agg #[.int .i64 0, .slice none 0 0, .slice none 0 0, .slice none 0 0, .bool false], .int .i64 0, .int .i64 0, .slice (some ⟨w.heap.size + 2, 0, none⟩) 0 0, .bool false]) (by simp [results, Try.results39, go_sem, cres1_0, cres1_1, cres1_2, cres1_3, cres1_4, lres1]) rfl ⟨_, _, rfl, ChanOwn.nils, LOwn.of (sets5_own Onn_1.out Xres_1.out (by decide) (.int .i64 0) (.slice none 0 0) (.slice none 0 0) (.slice none 0 0) (.bool false)) (Nat.le_refl _), (sets5_below B1.out (by first | omega | (simp only [szA, szS, szD, World.heap_drewN] at * <;> omega)) (.int .i64 0) (.slice none 0 0) (.slice none 0 0) (.slice none 0 0) (.bool false))⟩
    · have HT := Lib.hid ht; clear ht
      go_wp2_with (fail)
      refine (l5Waits_calls _ c t _ (ChanRow.below HP.out B1.out) (by omega)).mono ?_
      rintro e w2 ⟨rfl, hb⟩
      have B2 := Lib.hid (Below.trans B1.out (hb.mono (by first | omega | (simp only [szA, szS, szD, World.heap_drewN] at * <;> omega))) : Below w.heap.size w w2)
      have Z2 := hb.size
      have N2 : w1.heap.size ≤ w2.heap.size := (by first | with_reducible exact Z2 | (simp only [szA, szS, szD] at Z2; omega))
      clear Z2
      have Xp_2 := Lib.hid (below_at hb Xp_1.out)
      have Xres_2 := Lib.hid (below_at hb Xres_1.out)
      have Onn_2 := Lib.hid (Onn_1.out.kept hb)
      clear hb
      obtain ⟨cp2_0, cp2_1, cp2_2, cp2_3, cp2_4, fp2_0, fp2_1, fp2_2, fp2_3, fp2_4⟩ := box5 Xp_2.out; have lp2 := heap_lt Xp_2.out
      obtain ⟨cres2_0, cres2_1, cres2_2, cres2_3, cres2_4, fres2_0, fres2_1, fres2_2, fres2_3, fres2_4⟩ := box5 Xres_2.out; have lres2 := heap_lt Xres_2.out
      have S2 : w.heap.size ≤ w2.heap.size := (by omega)
      clear cp1_0 cp1_1 cp1_2 cp1_3 cp1_4 fp1_0 fp1_1 fp1_2 fp1_3 fp1_4 cres1_0 cres1_1 cres1_2 cres1_3 cres1_4 fres1_0 fres1_1 fres1_2 fres1_3 fres1_4
      by_cases hin : t ∈ chanThr c
      · rw [decide_eq_true hin]
        have HI := Lib.hid hin; clear hin
        obtain ⟨rfl, rfl, rfl, rfl, rfl⟩ := get_no HR.out (by simp [getOk, HI.out])
        go_wp2_with (fail)
        refine bodyPost_ret (v := .tuple #[.agg #[.int .i64 0, .slice none 0 0, .slice none 0 0, .slice none 0 0, .bool false], .int .i64 0, .int .i64 0, .slice (some ⟨w.heap.size + 2, 0, none⟩) 0 0, .bool false]) (by simp [results, Try.results39, go_sem, cres2_0, cres2_1, cres2_2, cres2_3, cres2_4, lres2]) rfl ⟨_, _, rfl, ChanOwn.nils, LOwn.of (sets5_own Onn_2.out Xres_2.out (by decide) (.int .i64 0) (.slice none 0 0) (.slice none 0 0) (.slice none 0 0) (.bool false)) (Nat.le_refl _), (sets5_below B2.out (by first | omega | (simp only [szA, szS, szD, World.heap_drewN] at * <;> omega)) (.int .i64 0) (.slice none 0 0) (.slice none 0 0) (.slice none 0 0) (.bool false))⟩
      · rw [decide_eq_false hin]
        have HO := Lib.hid (show getOk c t = true by simp [getOk, HV.out, HT.out, hin]); clear hin HV HT
        go_wp2_with (fail)
        refine (l5Copy_calls _ c _ (ChanRow.below HP.out B2.out) hn).mono ?_
        rintro e w3 ⟨vg, rfl, ho_g, hb⟩
        have B3 := Lib.hid (Below.trans B2.out (hb.mono (by first | omega | (simp only [szA, szS, szD, World.heap_drewN] at * <;> omega))) : Below w.heap.size w w3)
        have Z3 := hb.size
        have N3 : w2.heap.size ≤ w3.heap.size := (by first | with_reducible exact Z3 | (simp only [szA, szS, szD] at Z3; omega))
        clear Z3
        have Xp_3 := Lib.hid (below_at hb Xp_2.out)
        have Xres_3 := Lib.hid (below_at hb Xres_2.out)
        have Onn_3 := Lib.hid (Onn_2.out.kept hb)
        obtain ⟨ag1, pg1, ag2, pg2, ag3, pg3, rfl, ho1, hx1, ho2, hx2, ho3, hx3, ap13⟩ := ho_g
        have APg1_nn := Lib.hid (Own.later_apart Onn_2.out ho1 (Nat.le_refl _))
        have APg3_nn := Lib.hid (Own.later_apart Onn_2.out ho3 (Nat.le_refl _))
        have Og1_3 := Lib.hid (Own.mono (base' := w.heap.size) ho1 (by first | omega | (simp only [szA, szS, szD, World.heap_drewN] at * <;> omega))); clear ho1 hx1
        have Og2_3 := Lib.hid (Own.mono (base' := w.heap.size) ho2 (by first | omega | (simp only [szA, szS, szD, World.heap_drewN] at * <;> omega))); clear ho2 hx2
        have Og3_3 := Lib.hid (Own.mono (base' := w.heap.size) ho3 (by first | omega | (simp only [szA, szS, szD, World.heap_drewN] at * <;> omega))); clear ho3 hx3
        have APg13 := Lib.hid ap13; clear ap13
        clear hb
        obtain ⟨cp3_0, cp3_1, cp3_2, cp3_3, cp3_4, fp3_0, fp3_1, fp3_2, fp3_3, fp3_4⟩ := box5 Xp_3.out; have lp3 := heap_lt Xp_3.out
        obtain ⟨cres3_0, cres3_1, cres3_2, cres3_3, cres3_4, fres3_0, fres3_1, fres3_2, fres3_3, fres3_4⟩ := box5 Xres_3.out; have lres3 := heap_lt Xres_3.out
        have S3 : w.heap.size ≤ w3.heap.size := (by omega)
        clear cp2_0 cp2_1 cp2_2 cp2_3 cp2_4 fp2_0 fp2_1 fp2_2 fp2_3 fp2_4 cres2_0 cres2_1 cres2_2 cres2_3 cres2_4 fres2_0 fres2_1 fres2_2 fres2_3 fres2_4
        obtain ⟨w4, hw⟩ : ∃ x : World, x = (w3.alloc (.cells #[.int .i64 c.room, .slice ag1 c.items.length pg1, .slice ag2 c.senders.length pg2, .slice ag3 c.getters.length pg3, .bool c.closed] 25)) := ⟨_, rfl⟩
        have B4 := Lib.hid (show Below w.heap.size w w4 by rw [hw]; exact (Below.alloc B3.out (by first | omega | (simp only [szA, szS, szD, World.heap_drewN] at * <;> omega)) _))
        have N4 : w3.heap.size + 1 ≤ w4.heap.size := (by rw [hw]; simp only [szS, szA]; omega)
        have Onn_4 := Lib.hid (show Own w.heap.size 3 1 encI w4 (.slice (some ⟨w.heap.size + 2, 0, none⟩) ([] : List Int).length 0) ([] : List Int) by rw [hw]; exact (Onn_3.out.alloc _))
        have Og1_4 := Lib.hid (show Own w.heap.size 3 1 encI w4 (.slice ag1 c.items.length pg1) c.items by rw [hw]; exact (Og1_3.out.alloc _))
        have Og2_4 := Lib.hid (show Own w.heap.size 58 2 encP w4 (.slice ag2 c.senders.length pg2) c.senders by rw [hw]; exact (Og2_3.out.alloc _))
        have Og3_4 := Lib.hid (show Own w.heap.size 3 1 encI w4 (.slice ag3 c.getters.length pg3) c.getters by rw [hw]; exact (Og3_3.out.alloc _))
        have Xp_4 := Lib.hid (show w4.heap[w.heap.size]? = some (.cells #[.int .i64 c.room, .slice aP1 c.items.length pP1, .slice aP2 c.senders.length pP2, .slice aP3 c.getters.length pP3, .bool c.closed] 25 (0, 0)) by rw [hw]; exact (heap_up Xp_3.out))
        have Xres_4 := Lib.hid (show w4.heap[w.heap.size + 1]? = some (.cells #[.int .i64 0, .slice none 0 0, .slice none 0 0, .slice none 0 0, .bool false] 25 (0, 0)) by rw [hw]; exact (heap_up Xres_3.out))
        have Xout_4 := Lib.hid (show w4.heap[w3.heap.size]? = some (.cells #[.int .i64 c.room, .slice ag1 c.items.length pg1, .slice ag2 c.senders.length pg2, .slice ag3 c.getters.length pg3, .bool c.closed] 25 (0, 0)) by rw [hw]; exact (heap_at' (n := w3.heap.size) (by first | omega | (simp only [szA, szS, szD, World.heap_drewN] at * <;> omega))))
        have Q4 := Lib.hid (show w4.heap.size = w3.heap.size + 1 by rw [hw]; simp only [szS, szA])
        have HW4 := Lib.hid hw; clear hw
        obtain ⟨cp4_0, cp4_1, cp4_2, cp4_3, cp4_4, fp4_0, fp4_1, fp4_2, fp4_3, fp4_4⟩ := box5 Xp_4.out; have lp4 := heap_lt Xp_4.out
        obtain ⟨cres4_0, cres4_1, cres4_2, cres4_3, cres4_4, fres4_0, fres4_1, fres4_2, fres4_3, fres4_4⟩ := box5 Xres_4.out; have lres4 := heap_lt Xres_4.out
        obtain ⟨cout4_0, cout4_1, cout4_2, cout4_3, cout4_4, fout4_0, fout4_1, fout4_2, fout4_3, fout4_4⟩ := box5 Xout_4.out; have lout4 := heap_lt Xout_4.out
        have S4 : w.heap.size ≤ w4.heap.size := (by omega)
        by_cases hq : 0 < c.senders.length
        · have d1 := len_ne hq
          obtain ⟨sy, shy⟩ := get_ex hq
          obtain ⟨ss, shs⟩ : ∃ ys, c.senders.drop 1 = ys := ⟨_, rfl⟩
          have shl : c.senders.length - 1 = ss.length := by rw [← shs]; simp
          have shn : ss.length ≤ 10 := by omega
          have sRW := HI2.out
          obtain ⟨sb, so, sab, slt, sc⟩ := prow_at sRW hq
          subst sab
          have sc0 := sc 0 sy shy
          simp only [Nat.zero_mul, Nat.add_zero] at sc0
          have sT0 := row_rest sRW hq
          rw [shs, shl] at sT0
          obtain ⟨sA, shA⟩ : ∃ A : Addr, (if pP2 = 1 then (some (⟨sb, so, none⟩ : Addr)) else some ⟨sb, so + 2, none⟩) = some A := by split <;> exact ⟨_, rfl⟩
          rw [shA] at sT0
          have scap := prow_cap sRW
          have sk1 : (1 : Int) ≤ (c.senders.length : Int) := by omega
          have sk2 : 1 ≤ c.senders.length := by omega
          have sk3 : (1 : Int) ≤ (pP2 : Int) := by omega
          have sk4 : 1 ≤ pP2 := by omega
          have sk5 : (c.senders.length : Int) ≤ (pP2 : Int) := by omega
          have sHS := Lib.hid shs; have sHY := Lib.hid shy; have sT := Lib.hid sT0; clear sc shy shs sT0 sRW
          have cS := (B4.out.cell (p := ⟨sb, so, none⟩) slt).trans sc0.1; have cT := (B4.out.cell (p := ⟨sb, so + 1, none⟩) slt).trans sc0.2
          go_wp2_with (first | rw [← HW4.out] | (at_builtin; refine wpList_snoc _ encI_len encI_one rfl _ _ 22 rfl 3 _ 8 Try.underlying22 info_int rfl (by decide) w.heap.size (.slice ag1 c.items.length pg1) c.items rfl Og1_4.out sy.2 _ rfl _ rfl (by first | omega | (have := Q4.out; omega)) (by decide) (by omega) (by first | omega | (have := Q4.out; omega)) ?_; intro ad5 cp5 w5 hown hg hat; have hqq := Q4.out; obtain ⟨g1L5, hg1L5⟩ : ∃ l, c.items ++ [sy.2] = l := ⟨_, rfl⟩; have lg1L5 : c.items.length + 1 = g1L5.length := (by rw [← hg1L5, List.length_append, List.length_singleton]); rw [hg1L5, lg1L5] at hown; rw [lg1L5]; have Hg1L5 := Lib.hid hg1L5; clear hg1L5; have Kg1L5 := Lib.hid lg1L5; clear lg1L5; rw [Kg1L5.out] at hat; have ANg1_nn_5 := Lib.hid (Apart.push (v' := .slice ad5 g1L5.length cp5) APg1_nn.out hat Onn_4.out.hi (by first | omega | (simp only [szA, szS]; omega))); have ANg1_g3_5 := Lib.hid (Apart.push (v' := .slice ad5 g1L5.length cp5) APg13.out hat Og3_4.out.hi (by first | omega | (simp only [szA, szS]; omega))); clear hat; have Xp_5 := Lib.hid (grown_at2 hg (heap_up Xp_4.out) (Og1_4.out.ne Xp_4.out (by decide))); have Xres_5 := Lib.hid (grown_at2 hg (heap_up Xres_4.out) (Og1_4.out.ne Xres_4.out (by decide))); have Xout_5 := Lib.hid (grown_at2 hg (heap_up Xout_4.out) (Og1_4.out.ne Xout_4.out (by decide))); have Onn_5 := Lib.hid ((Onn_4.out.alloc _).apart hg APg1_nn.out); have Og2_5 := Lib.hid ((Og2_4.out.alloc _).apart hg (Own.apart_types Og1_4.out Og2_4.out (by decide))); have Og3_5 := Lib.hid ((Og3_4.out.alloc _).apart hg APg13.out); have Og1_5 := Lib.hid hown; have B5 := Lib.hid (Below.grown (Below.alloc B4.out (by first | omega | (simp only [szA, szS, szD, World.heap_drewN] at * <;> omega)) _) hg (by first | omega | (simp only [szA, szS, szD, World.heap_drewN]; omega)) (fun g e => Nat.le_trans (by omega) (Og1_4.out.blk g e))); have N5 : w4.heap.size + 1 ≤ w5.heap.size := (by first | with_reducible exact hg.size | (have := hg.size; simp only [szA, szS, szD] at this; omega)); clear hown hg; obtain ⟨cp5_0, cp5_1, cp5_2, cp5_3, cp5_4, fp5_0, fp5_1, fp5_2, fp5_3, fp5_4⟩ := box5 Xp_5.out; have lp5 := heap_lt Xp_5.out; obtain ⟨cres5_0, cres5_1, cres5_2, cres5_3, cres5_4, fres5_0, fres5_1, fres5_2, fres5_3, fres5_4⟩ := box5 Xres_5.out; have lres5 := heap_lt Xres_5.out; obtain ⟨cout5_0, cout5_1, cout5_2, cout5_3, cout5_4, fout5_0, fout5_1, fout5_2, fout5_3, fout5_4⟩ := box5 Xout_5.out; have lout5 := heap_lt Xout_5.out; have S5 : w.heap.size ≤ w5.heap.size := (by omega); clear hqq) | (at_builtin; refine Closed.out ?_))
          refine Closed.mk ?_
          clear cp3_0 cp3_1 cp3_2 cp3_3 cp3_4 fp3_0 fp3_1 fp3_2 fp3_3 fp3_4 cres3_0 cres3_1 cres3_2 cres3_3 cres3_4 fres3_0 fres3_1 fres3_2 fres3_3 fres3_4 cp4_0 cp4_1 cp4_2 cp4_3 cp4_4 fp4_0 fp4_1 fp4_2 fp4_3 fp4_4 cres4_0 cres4_1 cres4_2 cres4_3 cres4_4 fres4_0 fres4_1 fres4_2 fres4_3 fres4_4 cout4_0 cout4_1 cout4_2 cout4_3 cout4_4 fout4_0 fout4_1 fout4_2 fout4_3 fout4_4
          have hzl : g1L5.length ≤ 10 := by have := Kg1L5.out; omega
          have lt : 0 < g1L5.length := by have := Kg1L5.out; omega
          have d2 := len_ne lt
          go_wp2_with (first | (at_builtin; refine wpList_cloneE _ encP_len one_pair rfl _ _ 23 rfl 58 _ 16 Try.underlying23 info_Letter rfl (by decide) (w5.heap.size) rfl (by first | omega | (simp only [szA, szS, szD, World.heap_drewN] at * <;> omega)) (.slice (some sA) ss.length (pP2 - 1)) ss rfl (Row.below sT.out B5.out) (by decide) (by omega) ?_; intro ae2 pe2 w6 ho_e2 hb; have B6 := Lib.hid (Below.trans B5.out (hb.mono (by first | omega | (simp only [szA, szS, szD, World.heap_drewN] at * <;> omega))) : Below w.heap.size w w6); have Z6 := hb.size; have N6 : w5.heap.size ≤ w6.heap.size := (by first | with_reducible exact Z6 | (simp only [szA, szS, szD] at Z6; omega)); clear Z6; have Xp_6 := Lib.hid (below_at hb Xp_5.out); have Xres_6 := Lib.hid (below_at hb Xres_5.out); have Xout_6 := Lib.hid (below_at hb Xout_5.out); have Onn_6 := Lib.hid (Onn_5.out.kept hb); have Og1_6 := Lib.hid (Og1_5.out.kept hb); have Og3_6 := Lib.hid (Og3_5.out.kept hb); have Oe2_6 := Lib.hid (Own.mono (base' := w.heap.size) ho_e2 (by first | omega | (simp only [szA, szS, szD, World.heap_drewN] at * <;> omega))); clear ho_e2; clear hb; obtain ⟨cp6_0, cp6_1, cp6_2, cp6_3, cp6_4, fp6_0, fp6_1, fp6_2, fp6_3, fp6_4⟩ := box5 Xp_6.out; have lp6 := heap_lt Xp_6.out; obtain ⟨cres6_0, cres6_1, cres6_2, cres6_3, cres6_4, fres6_0, fres6_1, fres6_2, fres6_3, fres6_4⟩ := box5 Xres_6.out; have lres6 := heap_lt Xres_6.out; obtain ⟨cout6_0, cout6_1, cout6_2, cout6_3, cout6_4, fout6_0, fout6_1, fout6_2, fout6_3, fout6_4⟩ := box5 Xout_6.out; have lout6 := heap_lt Xout_6.out; have S6 : w.heap.size ≤ w6.heap.size := (by omega); have cS1 := (B6.out.cell (p := ⟨sb, so, none⟩) slt).trans sc0.1; have cT1 := (B6.out.cell (p := ⟨sb, so + 1, none⟩) slt).trans sc0.2; have nso : sb ≠ w3.heap.size := (by omega); have nso2 := nso.symm) | (at_builtin; refine Closed.out ?_))
          refine Closed.mk ?_
          clear cp5_0 cp5_1 cp5_2 cp5_3 cp5_4 fp5_0 fp5_1 fp5_2 fp5_3 fp5_4 cres5_0 cres5_1 cres5_2 cres5_3 cres5_4 fres5_0 fres5_1 fres5_2 fres5_3 fres5_4 cout5_0 cout5_1 cout5_2 cout5_3 cout5_4 fout5_0 fout5_1 fout5_2 fout5_3 fout5_4
          obtain ⟨w7, hw⟩ : ∃ x : World, x = (w6.setCell ⟨w3.heap.size, 2, none⟩ (.slice ae2 ss.length pe2)) := ⟨_, rfl⟩
          have B7 := Lib.hid (show Below w.heap.size w w7 by rw [hw]; exact (below_setAt B6.out (w3.heap.size) 2 (by first | omega | (simp only [szA, szS, szD, World.heap_drewN] at * <;> omega)) (.slice ae2 ss.length pe2)))
          have N7 : w6.heap.size ≤ w7.heap.size := (by rw [hw]; simp only [szS, szA]; omega)
          have Onn_7 := Lib.hid (show Own w.heap.size 3 1 encI w7 (.slice (some ⟨w.heap.size + 2, 0, none⟩) ([] : List Int).length 0) ([] : List Int) by rw [hw]; exact (Onn_6.out.setB (w3.heap.size) 2 Xout_6.out (by decide) (.slice ae2 ss.length pe2)))
          have Og1_7 := Lib.hid (show Own w.heap.size 3 1 encI w7 (.slice ad5 g1L5.length cp5) g1L5 by rw [hw]; exact (Og1_6.out.setB (w3.heap.size) 2 Xout_6.out (by decide) (.slice ae2 ss.length pe2)))
          have Og3_7 := Lib.hid (show Own w.heap.size 3 1 encI w7 (.slice ag3 c.getters.length pg3) c.getters by rw [hw]; exact (Og3_6.out.setB (w3.heap.size) 2 Xout_6.out (by decide) (.slice ae2 ss.length pe2)))
          have Oe2_7 := Lib.hid (show Own w.heap.size 58 2 encP w7 (.slice ae2 ss.length pe2) ss by rw [hw]; exact (Oe2_6.out.setB (w3.heap.size) 2 Xout_6.out (by decide) (.slice ae2 ss.length pe2)))
          have Xp_7 := Lib.hid (show w7.heap[w.heap.size]? = some (.cells #[.int .i64 c.room, .slice aP1 c.items.length pP1, .slice (some ⟨sb, so, none⟩) c.senders.length pP2, .slice aP3 c.getters.length pP3, .bool c.closed] 25 (0, 0)) by rw [hw]; exact (set_off (a := ⟨w3.heap.size, 2, none⟩) Xp_6.out (by first | omega | (simp only [szA, szS, szD, World.heap_drewN] at * <;> omega)) (.slice ae2 ss.length pe2)))
          have Xres_7 := Lib.hid (show w7.heap[w.heap.size + 1]? = some (.cells #[.int .i64 0, .slice none 0 0, .slice none 0 0, .slice none 0 0, .bool false] 25 (0, 0)) by rw [hw]; exact (set_off (a := ⟨w3.heap.size, 2, none⟩) Xres_6.out (by first | omega | (simp only [szA, szS, szD, World.heap_drewN] at * <;> omega)) (.slice ae2 ss.length pe2)))
          have Xout_7 := Lib.hid (show w7.heap[w3.heap.size]? = some (.cells #[.int .i64 c.room, .slice ag1 c.items.length pg1, .slice ae2 ss.length pe2, .slice ag3 c.getters.length pg3, .bool c.closed] 25 (0, 0)) by rw [hw]; exact (set_at (a := ⟨w3.heap.size, 2, none⟩) Xout_6.out rfl rfl (.slice ae2 ss.length pe2)))
          have Q7 := Lib.hid (show w7.heap.size = w6.heap.size by rw [hw]; simp only [szS, szA])
          have HW7 := Lib.hid hw; clear hw
          obtain ⟨cp7_0, cp7_1, cp7_2, cp7_3, cp7_4, fp7_0, fp7_1, fp7_2, fp7_3, fp7_4⟩ := box5 Xp_7.out; have lp7 := heap_lt Xp_7.out
          obtain ⟨cres7_0, cres7_1, cres7_2, cres7_3, cres7_4, fres7_0, fres7_1, fres7_2, fres7_3, fres7_4⟩ := box5 Xres_7.out; have lres7 := heap_lt Xres_7.out
          obtain ⟨cout7_0, cout7_1, cout7_2, cout7_3, cout7_4, fout7_0, fout7_1, fout7_2, fout7_3, fout7_4⟩ := box5 Xout_7.out; have lout7 := heap_lt Xout_7.out
          have S7 : w.heap.size ≤ w7.heap.size := (by omega)
          have cS2 := (B7.out.cell (p := ⟨sb, so, none⟩) slt).trans sc0.1; have cT2 := (B7.out.cell (p := ⟨sb, so + 1, none⟩) slt).trans sc0.2
          obtain ⟨iy, ihy⟩ := get_ex lt
          obtain ⟨is, ihs⟩ : ∃ ys, g1L5.drop 1 = ys := ⟨_, rfl⟩
          have ihl : g1L5.length - 1 = is.length := by rw [← ihs]; simp
          have ihn : is.length ≤ 10 := by omega
          have iRW := Own.row encI_len Og1_7.out
          obtain ⟨ib, io, iab, ilt, ic⟩ := irow_at iRW lt
          subst iab
          have ic0 := ic 0 iy ihy
          simp only [Nat.zero_mul, Nat.add_zero] at ic0
          have iT0 := row_rest iRW lt
          rw [ihs, ihl] at iT0
          obtain ⟨iA, ihA⟩ : ∃ A : Addr, (if cp5 = 1 then (some (⟨ib, io, none⟩ : Addr)) else some ⟨ib, io + 1, none⟩) = some A := by split <;> exact ⟨_, rfl⟩
          rw [ihA] at iT0
          have icap := irow_cap iRW
          have ik1 : (1 : Int) ≤ (g1L5.length : Int) := by omega
          have ik2 : 1 ≤ g1L5.length := by omega
          have ik3 : (1 : Int) ≤ (cp5 : Int) := by omega
          have ik4 : 1 ≤ cp5 := by omega
          have ik5 : (g1L5.length : Int) ≤ (cp5 : Int) := by omega
          have iHS := Lib.hid ihs; have iHY := Lib.hid ihy; have iT := Lib.hid iT0; clear ic ihy ihs iT0 iRW
          go_wp2_with (first | rw [← HW7.out] | (at_builtin; refine wpList_snoc _ encI_len encI_one rfl _ _ 22 rfl 3 _ 8 Try.underlying22 info_int rfl (by decide) w.heap.size (.slice (some ⟨w.heap.size + 2, 0, none⟩) ([] : List Int).length 0) ([] : List Int) rfl Onn_7.out sy.1 _ rfl _ rfl (by first | omega | (have := Q7.out; omega)) (by decide) (by decide) (by first | omega | (have := Q7.out; omega)) ?_; intro ad8 cp8 w8 hown hg hat; have hqq := Q7.out; obtain ⟨nnL8, hnnL8⟩ : ∃ l, ([] : List Int) ++ [sy.1] = l := ⟨_, rfl⟩; have lnnL8 : ([] : List Int).length + 1 = nnL8.length := (by rw [← hnnL8, List.length_append, List.length_singleton]); rw [hnnL8, lnnL8] at hown; rw [lnnL8]; have HnnL8 := Lib.hid hnnL8; clear hnnL8; have KnnL8 := Lib.hid lnnL8; clear lnnL8; rw [KnnL8.out] at hat; have ANnn_g1_8 := Lib.hid (Apart.push (v' := .slice ad8 nnL8.length cp8) ANg1_nn_5.out.symm hat Og1_7.out.hi (by first | omega | (simp only [szA, szS]; omega))); have ANnn_g3_8 := Lib.hid (Apart.push (v' := .slice ad8 nnL8.length cp8) APg3_nn.out.symm hat Og3_7.out.hi (by first | omega | (simp only [szA, szS]; omega))); clear hat; have Xp_8 := Lib.hid (grown_at2 hg (heap_up Xp_7.out) (Onn_7.out.ne Xp_7.out (by decide))); have Xres_8 := Lib.hid (grown_at2 hg (heap_up Xres_7.out) (Onn_7.out.ne Xres_7.out (by decide))); have Xout_8 := Lib.hid (grown_at2 hg (heap_up Xout_7.out) (Onn_7.out.ne Xout_7.out (by decide))); have Og1_8 := Lib.hid ((Og1_7.out.alloc _).apart hg ANg1_nn_5.out.symm); have Og3_8 := Lib.hid ((Og3_7.out.alloc _).apart hg APg3_nn.out.symm); have Oe2_8 := Lib.hid ((Oe2_7.out.alloc _).apart hg (Own.apart_types Onn_7.out Oe2_7.out (by decide))); have Onn_8 := Lib.hid hown; have B8 := Lib.hid (Below.grown (Below.alloc B7.out (by first | omega | (simp only [szA, szS, szD, World.heap_drewN] at * <;> omega)) _) hg (by first | omega | (simp only [szA, szS, szD, World.heap_drewN]; omega)) (fun g e => Nat.le_trans (by omega) (Onn_7.out.blk g e))); have N8 : w7.heap.size + 1 ≤ w8.heap.size := (by first | with_reducible exact hg.size | (have := hg.size; simp only [szA, szS, szD] at this; omega)); clear hown hg; obtain ⟨cp8_0, cp8_1, cp8_2, cp8_3, cp8_4, fp8_0, fp8_1, fp8_2, fp8_3, fp8_4⟩ := box5 Xp_8.out; have lp8 := heap_lt Xp_8.out; obtain ⟨cres8_0, cres8_1, cres8_2, cres8_3, cres8_4, fres8_0, fres8_1, fres8_2, fres8_3, fres8_4⟩ := box5 Xres_8.out; have lres8 := heap_lt Xres_8.out; obtain ⟨cout8_0, cout8_1, cout8_2, cout8_3, cout8_4, fout8_0, fout8_1, fout8_2, fout8_3, fout8_4⟩ := box5 Xout_8.out; have lout8 := heap_lt Xout_8.out; have S8 : w.heap.size ≤ w8.heap.size := (by omega); clear hqq) | (at_builtin; refine Closed.out ?_))
          refine Closed.mk ?_
          clear cp6_0 cp6_1 cp6_2 cp6_3 cp6_4 fp6_0 fp6_1 fp6_2 fp6_3 fp6_4 cres6_0 cres6_1 cres6_2 cres6_3 cres6_4 fres6_0 fres6_1 fres6_2 fres6_3 fres6_4 cout6_0 cout6_1 cout6_2 cout6_3 cout6_4 fout6_0 fout6_1 fout6_2 fout6_3 fout6_4 cp7_0 cp7_1 cp7_2 cp7_3 cp7_4 fp7_0 fp7_1 fp7_2 fp7_3 fp7_4 cres7_0 cres7_1 cres7_2 cres7_3 cres7_4 fres7_0 fres7_1 fres7_2 fres7_3 fres7_4 cout7_0 cout7_1 cout7_2 cout7_3 cout7_4 fout7_0 fout7_1 fout7_2 fout7_3 fout7_4
          clear iT
          have iT9 := row_rest (Own.row encI_len Og1_8.out) lt
          rw [iHS.out, ihl, ihA] at iT9
          have iT := Lib.hid iT9; clear iT9
          obtain ⟨e1, rfl, rfl, e4, rfl⟩ := get_send HR.out HO.out sHY.out Hg1L5.out iHY.out
          rw [iHS.out, sHS.out] at e1; subst e1; obtain rfl : nnL8 = y := (by rw [e4, ← HnnL8.out]; rfl); have hk1 : nnL8.length = 1 := (by rw [← KnnL8.out]; rfl)
          go_wp2_with (at_builtin; refine wpList_cloneE _ encI_len encI_one rfl _ _ 22 rfl 3 _ 8 Try.underlying22 info_int rfl (by decide) (w8.heap.size) rfl (by first | omega | (simp only [szA, szS, szD, World.heap_drewN] at * <;> omega)) (.slice (some iA) is.length (cp5 - 1)) is rfl iT.out (by decide) (by omega) ?_; intro ae1 pe1 w9 ho_e1 hb; have B9 := Lib.hid (Below.trans B8.out (hb.mono (by first | omega | (simp only [szA, szS, szD, World.heap_drewN] at * <;> omega))) : Below w.heap.size w w9); have Z9 := hb.size; have N9 : w8.heap.size ≤ w9.heap.size := (by first | with_reducible exact Z9 | (simp only [szA, szS, szD] at Z9; omega)); clear Z9; have Xp_9 := Lib.hid (below_at hb Xp_8.out); have Xres_9 := Lib.hid (below_at hb Xres_8.out); have Xout_9 := Lib.hid (below_at hb Xout_8.out); have Onn_9 := Lib.hid (Onn_8.out.kept hb); have Og1_9 := Lib.hid (Og1_8.out.kept hb); have Og3_9 := Lib.hid (Og3_8.out.kept hb); have Oe2_9 := Lib.hid (Oe2_8.out.kept hb); have APe1_nn := Lib.hid (Own.later_apart Onn_8.out ho_e1 (Nat.le_refl _)); have APe1_g1 := Lib.hid (Own.later_apart Og1_8.out ho_e1 (Nat.le_refl _)); have APe1_g3 := Lib.hid (Own.later_apart Og3_8.out ho_e1 (Nat.le_refl _)); have Oe1_9 := Lib.hid (Own.mono (base' := w.heap.size) ho_e1 (by first | omega | (simp only [szA, szS, szD, World.heap_drewN] at * <;> omega))); clear ho_e1; clear hb; obtain ⟨cp9_0, cp9_1, cp9_2, cp9_3, cp9_4, fp9_0, fp9_1, fp9_2, fp9_3, fp9_4⟩ := box5 Xp_9.out; have lp9 := heap_lt Xp_9.out; obtain ⟨cres9_0, cres9_1, cres9_2, cres9_3, cres9_4, fres9_0, fres9_1, fres9_2, fres9_3, fres9_4⟩ := box5 Xres_9.out; have lres9 := heap_lt Xres_9.out; obtain ⟨cout9_0, cout9_1, cout9_2, cout9_3, cout9_4, fout9_0, fout9_1, fout9_2, fout9_3, fout9_4⟩ := box5 Xout_9.out; have lout9 := heap_lt Xout_9.out; have S9 : w.heap.size ≤ w9.heap.size := (by omega))
          clear cp8_0 cp8_1 cp8_2 cp8_3 cp8_4 fp8_0 fp8_1 fp8_2 fp8_3 fp8_4 cres8_0 cres8_1 cres8_2 cres8_3 cres8_4 fres8_0 fres8_1 fres8_2 fres8_3 fres8_4 cout8_0 cout8_1 cout8_2 cout8_3 cout8_4 fout8_0 fout8_1 fout8_2 fout8_3 fout8_4
          obtain ⟨w10, hw⟩ : ∃ x : World, x = (w9.setCell ⟨w3.heap.size, 1, none⟩ (.slice ae1 is.length pe1)) := ⟨_, rfl⟩
          have B10 := Lib.hid (show Below w.heap.size w w10 by rw [hw]; exact (below_setAt B9.out (w3.heap.size) 1 (by first | omega | (simp only [szA, szS, szD, World.heap_drewN] at * <;> omega)) (.slice ae1 is.length pe1)))
          have N10 : w9.heap.size ≤ w10.heap.size := (by rw [hw]; simp only [szS, szA]; omega)
          have Onn_10 := Lib.hid (show Own w.heap.size 3 1 encI w10 (.slice ad8 nnL8.length cp8) nnL8 by rw [hw]; exact (Onn_9.out.setB (w3.heap.size) 1 Xout_9.out (by decide) (.slice ae1 is.length pe1)))
          have Og1_10 := Lib.hid (show Own w.heap.size 3 1 encI w10 (.slice (some ⟨ib, io, none⟩) g1L5.length cp5) g1L5 by rw [hw]; exact (Og1_9.out.setB (w3.heap.size) 1 Xout_9.out (by decide) (.slice ae1 is.length pe1)))
          have Og3_10 := Lib.hid (show Own w.heap.size 3 1 encI w10 (.slice ag3 c.getters.length pg3) c.getters by rw [hw]; exact (Og3_9.out.setB (w3.heap.size) 1 Xout_9.out (by decide) (.slice ae1 is.length pe1)))
          have Oe2_10 := Lib.hid (show Own w.heap.size 58 2 encP w10 (.slice ae2 ss.length pe2) ss by rw [hw]; exact (Oe2_9.out.setB (w3.heap.size) 1 Xout_9.out (by decide) (.slice ae1 is.length pe1)))
          have Oe1_10 := Lib.hid (show Own w.heap.size 3 1 encI w10 (.slice ae1 is.length pe1) is by rw [hw]; exact (Oe1_9.out.setB (w3.heap.size) 1 Xout_9.out (by decide) (.slice ae1 is.length pe1)))
          have Xp_10 := Lib.hid (show w10.heap[w.heap.size]? = some (.cells #[.int .i64 c.room, .slice aP1 c.items.length pP1, .slice (some ⟨sb, so, none⟩) c.senders.length pP2, .slice aP3 c.getters.length pP3, .bool c.closed] 25 (0, 0)) by rw [hw]; exact (set_off (a := ⟨w3.heap.size, 1, none⟩) Xp_9.out (by first | omega | (simp only [szA, szS, szD, World.heap_drewN] at * <;> omega)) (.slice ae1 is.length pe1)))
          have Xres_10 := Lib.hid (show w10.heap[w.heap.size + 1]? = some (.cells #[.int .i64 0, .slice none 0 0, .slice none 0 0, .slice none 0 0, .bool false] 25 (0, 0)) by rw [hw]; exact (set_off (a := ⟨w3.heap.size, 1, none⟩) Xres_9.out (by first | omega | (simp only [szA, szS, szD, World.heap_drewN] at * <;> omega)) (.slice ae1 is.length pe1)))
          have Xout_10 := Lib.hid (show w10.heap[w3.heap.size]? = some (.cells #[.int .i64 c.room, .slice ae1 is.length pe1, .slice ae2 ss.length pe2, .slice ag3 c.getters.length pg3, .bool c.closed] 25 (0, 0)) by rw [hw]; exact (set_at (a := ⟨w3.heap.size, 1, none⟩) Xout_9.out rfl rfl (.slice ae1 is.length pe1)))
          have Q10 := Lib.hid (show w10.heap.size = w9.heap.size by rw [hw]; simp only [szS, szA])
          have HW10 := Lib.hid hw; clear hw
          obtain ⟨cp10_0, cp10_1, cp10_2, cp10_3, cp10_4, fp10_0, fp10_1, fp10_2, fp10_3, fp10_4⟩ := box5 Xp_10.out; have lp10 := heap_lt Xp_10.out
          obtain ⟨cres10_0, cres10_1, cres10_2, cres10_3, cres10_4, fres10_0, fres10_1, fres10_2, fres10_3, fres10_4⟩ := box5 Xres_10.out; have lres10 := heap_lt Xres_10.out
          obtain ⟨cout10_0, cout10_1, cout10_2, cout10_3, cout10_4, fout10_0, fout10_1, fout10_2, fout10_3, fout10_4⟩ := box5 Xout_10.out; have lout10 := heap_lt Xout_10.out
          have S10 : w.heap.size ≤ w10.heap.size := (by omega)
          have cI := irow_at (Own.row encI_len Og1_10.out) lt
          obtain ⟨ib2, io2, iab2, _, ic2⟩ := cI
          injection iab2 with iab2; injection iab2 with e5 e6 _; subst e5 e6
          have cI0 := ic2 0 iy iHY.out
          rw [Nat.add_zero] at cI0
          clear ic2
          have no1 : w3.heap.size ≠ w.heap.size + 1 := (by omega)
          have no2 := no1.symm
          have no3 : ib ≠ w.heap.size + 1 := fun e => Og1_10.out.ne Xres_10.out (by decide) (congrArg some e)
          have no4 := no3.symm
          go_wp2_with (rw [← HW10.out])
          go_region_held3 (fun w' => w'.cell? ⟨w3.heap.size, 0, none⟩ = some (.int .i64 c.room) ∧ w'.cell? ⟨w3.heap.size, 1, none⟩ = some (.slice ae1 is.length pe1) ∧ w'.cell? ⟨w3.heap.size, 2, none⟩ = some (.slice ae2 ss.length pe2) ∧ w'.cell? ⟨w3.heap.size, 3, none⟩ = some (.slice ag3 c.getters.length pg3) ∧ w'.cell? ⟨w3.heap.size, 4, none⟩ = some (.bool c.closed) ∧ w'.cell? ⟨ib, io, none⟩ = some (.int .i64 iy)) (go_keep) (fail)
          all_goals
            go_wp2_with (fail)
            refine bodyPost_ret (v := .tuple #[.agg #[.int .i64 c.room, .slice ae1 is.length pe1, .slice ae2 ss.length pe2, .slice ag3 c.getters.length pg3, .bool c.closed], .int .i64 iy, .int .i64 1, .slice ad8 nnL8.length cp8, .bool true]) (by simp [results, Try.results39, go_sem, cres10_0, cres10_1, cres10_2, cres10_3, cres10_4, lres10, hk1]) rfl ⟨_, _, rfl, ChanOwn.make (Own.drewN (sets5_own Oe1_10.out Xres_10.out (by decide) (.int .i64 c.room) (.slice ae1 is.length pe1) (.slice ae2 ss.length pe2) (.slice ag3 c.getters.length pg3) (.bool c.closed)) 1) (Own.drewN (sets5_own Oe2_10.out Xres_10.out (by decide) (.int .i64 c.room) (.slice ae1 is.length pe1) (.slice ae2 ss.length pe2) (.slice ag3 c.getters.length pg3) (.bool c.closed)) 1) (Own.drewN (sets5_own Og3_10.out Xres_10.out (by decide) (.int .i64 c.room) (.slice ae1 is.length pe1) (.slice ae2 ss.length pe2) (.slice ag3 c.getters.length pg3) (.bool c.closed)) 1) (Nat.le_refl _) APe1_g3.out, LOwn.of ((Own.drewN (sets5_own Onn_10.out Xres_10.out (by decide) (.int .i64 c.room) (.slice ae1 is.length pe1) (.slice ae2 ss.length pe2) (.slice ag3 c.getters.length pg3) (.bool c.closed)) 1)) (Nat.le_refl _), (sets5_below B10.out (by first | omega | (simp only [szA, szS, szD, World.heap_drewN] at * <;> omega)) (.int .i64 c.room) (.slice ae1 is.length pe1) (.slice ae2 ss.length pe2) (.slice ag3 c.getters.length pg3) (.bool c.closed)).drew⟩
        · have d1 := len_eq hq
          by_cases lt : 0 < c.items.length
          · have d2 := len_ne lt
            obtain ⟨iy, ihy⟩ := get_ex lt
            obtain ⟨is, ihs⟩ : ∃ ys, c.items.drop 1 = ys := ⟨_, rfl⟩
            have ihl : c.items.length - 1 = is.length := by rw [← ihs]; simp
            have ihn : is.length ≤ 10 := by omega
            have iRW := Own.row encI_len Og1_4.out
            obtain ⟨ib, io, iab, ilt, ic⟩ := irow_at iRW lt
            subst iab
            have ic0 := ic 0 iy ihy
            simp only [Nat.zero_mul, Nat.add_zero] at ic0
            have iT0 := row_rest iRW lt
            rw [ihs, ihl] at iT0
            obtain ⟨iA, ihA⟩ : ∃ A : Addr, (if pg1 = 1 then (some (⟨ib, io, none⟩ : Addr)) else some ⟨ib, io + 1, none⟩) = some A := by split <;> exact ⟨_, rfl⟩
            rw [ihA] at iT0
            have icap := irow_cap iRW
            have ik1 : (1 : Int) ≤ (c.items.length : Int) := by omega
            have ik2 : 1 ≤ c.items.length := by omega
            have ik3 : (1 : Int) ≤ (pg1 : Int) := by omega
            have ik4 : 1 ≤ pg1 := by omega
            have ik5 : (c.items.length : Int) ≤ (pg1 : Int) := by omega
            have iHS := Lib.hid ihs; have iHY := Lib.hid ihy; have iT := Lib.hid iT0; clear ic ihy ihs iT0 iRW
            obtain ⟨e1, rfl, rfl, rfl, rfl⟩ := get_item HR.out HO.out hq iHY.out
            rw [iHS.out] at e1; subst e1
            go_wp2_with (first | rw [← HW4.out] | (at_builtin; refine wpList_cloneE _ encI_len encI_one rfl _ _ 22 rfl 3 _ 8 Try.underlying22 info_int rfl (by decide) (w4.heap.size) rfl (by first | omega | (simp only [szA, szS, szD, World.heap_drewN] at * <;> omega)) (.slice (some iA) is.length (pg1 - 1)) is rfl iT.out (by decide) (by omega) ?_; intro ae1 pe1 w5 ho_e1 hb; have B5 := Lib.hid (Below.trans B4.out (hb.mono (by first | omega | (simp only [szA, szS, szD, World.heap_drewN] at * <;> omega))) : Below w.heap.size w w5); have Z5 := hb.size; have N5 : w4.heap.size ≤ w5.heap.size := (by first | with_reducible exact Z5 | (simp only [szA, szS, szD] at Z5; omega)); clear Z5; have Xp_5 := Lib.hid (below_at hb Xp_4.out); have Xres_5 := Lib.hid (below_at hb Xres_4.out); have Xout_5 := Lib.hid (below_at hb Xout_4.out); have Onn_5 := Lib.hid (Onn_4.out.kept hb); have Og1_5 := Lib.hid (Og1_4.out.kept hb); have Og2_5 := Lib.hid (Og2_4.out.kept hb); have Og3_5 := Lib.hid (Og3_4.out.kept hb); have APe1_nn := Lib.hid (Own.later_apart Onn_4.out ho_e1 (Nat.le_refl _)); have APe1_g1 := Lib.hid (Own.later_apart Og1_4.out ho_e1 (Nat.le_refl _)); have APe1_g3 := Lib.hid (Own.later_apart Og3_4.out ho_e1 (Nat.le_refl _)); have Oe1_5 := Lib.hid (Own.mono (base' := w.heap.size) ho_e1 (by first | omega | (simp only [szA, szS, szD, World.heap_drewN] at * <;> omega))); clear ho_e1; clear hb; obtain ⟨cp5_0, cp5_1, cp5_2, cp5_3, cp5_4, fp5_0, fp5_1, fp5_2, fp5_3, fp5_4⟩ := box5 Xp_5.out; have lp5 := heap_lt Xp_5.out; obtain ⟨cres5_0, cres5_1, cres5_2, cres5_3, cres5_4, fres5_0, fres5_1, fres5_2, fres5_3, fres5_4⟩ := box5 Xres_5.out; have lres5 := heap_lt Xres_5.out; obtain ⟨cout5_0, cout5_1, cout5_2, cout5_3, cout5_4, fout5_0, fout5_1, fout5_2, fout5_3, fout5_4⟩ := box5 Xout_5.out; have lout5 := heap_lt Xout_5.out; have S5 : w.heap.size ≤ w5.heap.size := (by omega)))
            clear cp3_0 cp3_1 cp3_2 cp3_3 cp3_4 fp3_0 fp3_1 fp3_2 fp3_3 fp3_4 cres3_0 cres3_1 cres3_2 cres3_3 cres3_4 fres3_0 fres3_1 fres3_2 fres3_3 fres3_4 cp4_0 cp4_1 cp4_2 cp4_3 cp4_4 fp4_0 fp4_1 fp4_2 fp4_3 fp4_4 cres4_0 cres4_1 cres4_2 cres4_3 cres4_4 fres4_0 fres4_1 fres4_2 fres4_3 fres4_4 cout4_0 cout4_1 cout4_2 cout4_3 cout4_4 fout4_0 fout4_1 fout4_2 fout4_3 fout4_4
            obtain ⟨w6, hw⟩ : ∃ x : World, x = (w5.setCell ⟨w3.heap.size, 1, none⟩ (.slice ae1 is.length pe1)) := ⟨_, rfl⟩
            have B6 := Lib.hid (show Below w.heap.size w w6 by rw [hw]; exact (below_setAt B5.out (w3.heap.size) 1 (by first | omega | (simp only [szA, szS, szD, World.heap_drewN] at * <;> omega)) (.slice ae1 is.length pe1)))
            have N6 : w5.heap.size ≤ w6.heap.size := (by rw [hw]; simp only [szS, szA]; omega)
            have Onn_6 := Lib.hid (show Own w.heap.size 3 1 encI w6 (.slice (some ⟨w.heap.size + 2, 0, none⟩) ([] : List Int).length 0) ([] : List Int) by rw [hw]; exact (Onn_5.out.setB (w3.heap.size) 1 Xout_5.out (by decide) (.slice ae1 is.length pe1)))
            have Og1_6 := Lib.hid (show Own w.heap.size 3 1 encI w6 (.slice (some ⟨ib, io, none⟩) c.items.length pg1) c.items by rw [hw]; exact (Og1_5.out.setB (w3.heap.size) 1 Xout_5.out (by decide) (.slice ae1 is.length pe1)))
            have Og2_6 := Lib.hid (show Own w.heap.size 58 2 encP w6 (.slice ag2 c.senders.length pg2) c.senders by rw [hw]; exact (Og2_5.out.setB (w3.heap.size) 1 Xout_5.out (by decide) (.slice ae1 is.length pe1)))
            have Og3_6 := Lib.hid (show Own w.heap.size 3 1 encI w6 (.slice ag3 c.getters.length pg3) c.getters by rw [hw]; exact (Og3_5.out.setB (w3.heap.size) 1 Xout_5.out (by decide) (.slice ae1 is.length pe1)))
            have Oe1_6 := Lib.hid (show Own w.heap.size 3 1 encI w6 (.slice ae1 is.length pe1) is by rw [hw]; exact (Oe1_5.out.setB (w3.heap.size) 1 Xout_5.out (by decide) (.slice ae1 is.length pe1)))
            have Xp_6 := Lib.hid (show w6.heap[w.heap.size]? = some (.cells #[.int .i64 c.room, .slice aP1 c.items.length pP1, .slice aP2 c.senders.length pP2, .slice aP3 c.getters.length pP3, .bool c.closed] 25 (0, 0)) by rw [hw]; exact (set_off (a := ⟨w3.heap.size, 1, none⟩) Xp_5.out (by first | omega | (simp only [szA, szS, szD, World.heap_drewN] at * <;> omega)) (.slice ae1 is.length pe1)))
            have Xres_6 := Lib.hid (show w6.heap[w.heap.size + 1]? = some (.cells #[.int .i64 0, .slice none 0 0, .slice none 0 0, .slice none 0 0, .bool false] 25 (0, 0)) by rw [hw]; exact (set_off (a := ⟨w3.heap.size, 1, none⟩) Xres_5.out (by first | omega | (simp only [szA, szS, szD, World.heap_drewN] at * <;> omega)) (.slice ae1 is.length pe1)))
            have Xout_6 := Lib.hid (show w6.heap[w3.heap.size]? = some (.cells #[.int .i64 c.room, .slice ae1 is.length pe1, .slice ag2 c.senders.length pg2, .slice ag3 c.getters.length pg3, .bool c.closed] 25 (0, 0)) by rw [hw]; exact (set_at (a := ⟨w3.heap.size, 1, none⟩) Xout_5.out rfl rfl (.slice ae1 is.length pe1)))
            have Q6 := Lib.hid (show w6.heap.size = w5.heap.size by rw [hw]; simp only [szS, szA])
            have HW6 := Lib.hid hw; clear hw
            obtain ⟨cp6_0, cp6_1, cp6_2, cp6_3, cp6_4, fp6_0, fp6_1, fp6_2, fp6_3, fp6_4⟩ := box5 Xp_6.out; have lp6 := heap_lt Xp_6.out
            obtain ⟨cres6_0, cres6_1, cres6_2, cres6_3, cres6_4, fres6_0, fres6_1, fres6_2, fres6_3, fres6_4⟩ := box5 Xres_6.out; have lres6 := heap_lt Xres_6.out
            obtain ⟨cout6_0, cout6_1, cout6_2, cout6_3, cout6_4, fout6_0, fout6_1, fout6_2, fout6_3, fout6_4⟩ := box5 Xout_6.out; have lout6 := heap_lt Xout_6.out
            have S6 : w.heap.size ≤ w6.heap.size := (by omega)
            have cI := irow_at (Own.row encI_len Og1_6.out) lt
            obtain ⟨ib2, io2, iab2, _, ic2⟩ := cI
            injection iab2 with iab2; injection iab2 with e5 e6 _; subst e5 e6
            have cI0 := ic2 0 iy iHY.out
            rw [Nat.add_zero] at cI0
            clear ic2
            have no1 : w3.heap.size ≠ w.heap.size + 1 := (by omega)
            have no2 := no1.symm
            have no3 : ib ≠ w.heap.size + 1 := fun e => Og1_6.out.ne Xres_6.out (by decide) (congrArg some e)
            have no4 := no3.symm
            go_wp2_with (rw [← HW6.out])
            go_region_held3 (fun w' => w'.cell? ⟨w3.heap.size, 0, none⟩ = some (.int .i64 c.room) ∧ w'.cell? ⟨w3.heap.size, 1, none⟩ = some (.slice ae1 is.length pe1) ∧ w'.cell? ⟨w3.heap.size, 2, none⟩ = some (.slice ag2 c.senders.length pg2) ∧ w'.cell? ⟨w3.heap.size, 3, none⟩ = some (.slice ag3 c.getters.length pg3) ∧ w'.cell? ⟨w3.heap.size, 4, none⟩ = some (.bool c.closed) ∧ w'.cell? ⟨ib, io, none⟩ = some (.int .i64 iy)) (go_keep) (fail)
            all_goals
              go_wp2_with (fail)
              refine bodyPost_ret (v := .tuple #[.agg #[.int .i64 c.room, .slice ae1 is.length pe1, .slice ag2 c.senders.length pg2, .slice ag3 c.getters.length pg3, .bool c.closed], .int .i64 iy, .int .i64 1, .slice (some ⟨w.heap.size + 2, 0, none⟩) 0 0, .bool true]) (by simp [results, Try.results39, go_sem, cres6_0, cres6_1, cres6_2, cres6_3, cres6_4, lres6]) rfl ⟨_, _, rfl, ChanOwn.make (Own.drewN (sets5_own Oe1_6.out Xres_6.out (by decide) (.int .i64 c.room) (.slice ae1 is.length pe1) (.slice ag2 c.senders.length pg2) (.slice ag3 c.getters.length pg3) (.bool c.closed)) 1) (Own.drewN (sets5_own Og2_6.out Xres_6.out (by decide) (.int .i64 c.room) (.slice ae1 is.length pe1) (.slice ag2 c.senders.length pg2) (.slice ag3 c.getters.length pg3) (.bool c.closed)) 1) (Own.drewN (sets5_own Og3_6.out Xres_6.out (by decide) (.int .i64 c.room) (.slice ae1 is.length pe1) (.slice ag2 c.senders.length pg2) (.slice ag3 c.getters.length pg3) (.bool c.closed)) 1) (Nat.le_refl _) APe1_g3.out, LOwn.of ((Own.drewN (sets5_own Onn_6.out Xres_6.out (by decide) (.int .i64 c.room) (.slice ae1 is.length pe1) (.slice ag2 c.senders.length pg2) (.slice ag3 c.getters.length pg3) (.bool c.closed)) 1)) (Nat.le_refl _), (sets5_below B6.out (by first | omega | (simp only [szA, szS, szD, World.heap_drewN] at * <;> omega)) (.int .i64 c.room) (.slice ae1 is.length pe1) (.slice ag2 c.senders.length pg2) (.slice ag3 c.getters.length pg3) (.bool c.closed)).drew⟩
          · have d2 := len_eq lt
            obtain ⟨gn1, gn2⟩ := get_none HR.out HO.out hq lt
            have GN1 := Lib.hid gn1; have GN2 := Lib.hid gn2; clear gn1 gn2
            by_cases hcl : c.closed = true
            · have hcl2 := hcl; rw [hcl] at Xp_4 cp4_4
              have HCL := Lib.hid hcl2; clear hcl hcl2
              obtain ⟨rfl, rfl, rfl, rfl, rfl⟩ := GN1.out HCL.out
              go_wp2_with (rw [← HW4.out])
              refine bodyPost_ret (v := .tuple #[.agg #[.int .i64 c.room, .slice ag1 c.items.length pg1, .slice ag2 c.senders.length pg2, .slice ag3 c.getters.length pg3, .bool c.closed], .int .i64 0, .int .i64 2, .slice (some ⟨w.heap.size + 2, 0, none⟩) 0 0, .bool true]) (by simp [results, Try.results39, go_sem, cres4_0, cres4_1, cres4_2, cres4_3, cres4_4, lres4]) rfl ⟨_, _, rfl, ChanOwn.make (sets5_own Og1_4.out Xres_4.out (by decide) (.int .i64 c.room) (.slice ag1 c.items.length pg1) (.slice ag2 c.senders.length pg2) (.slice ag3 c.getters.length pg3) (.bool c.closed)) (sets5_own Og2_4.out Xres_4.out (by decide) (.int .i64 c.room) (.slice ag1 c.items.length pg1) (.slice ag2 c.senders.length pg2) (.slice ag3 c.getters.length pg3) (.bool c.closed)) (sets5_own Og3_4.out Xres_4.out (by decide) (.int .i64 c.room) (.slice ag1 c.items.length pg1) (.slice ag2 c.senders.length pg2) (.slice ag3 c.getters.length pg3) (.bool c.closed)) (Nat.le_refl _) APg13.out, LOwn.of (sets5_own Onn_4.out Xres_4.out (by decide) (.int .i64 c.room) (.slice ag1 c.items.length pg1) (.slice ag2 c.senders.length pg2) (.slice ag3 c.getters.length pg3) (.bool c.closed)) (Nat.le_refl _), (sets5_below B4.out (by first | omega | (simp only [szA, szS, szD, World.heap_drewN] at * <;> omega)) (.int .i64 c.room) (.slice ag1 c.items.length pg1) (.slice ag2 c.senders.length pg2) (.slice ag3 c.getters.length pg3) (.bool c.closed))⟩
            · replace hcl : c.closed = false := (by simpa using hcl)
              have hcl2 := hcl; rw [hcl] at Xp_4 cp4_4
              have HCL := Lib.hid hcl2; clear hcl hcl2
              obtain ⟨e1, rfl, rfl, rfl, rfl⟩ := GN2.out HCL.out
              go_wp2_with (first | rw [← HW4.out] | (at_builtin; refine wpList_snoc _ encI_len encI_one rfl _ _ 22 rfl 3 _ 8 Try.underlying22 info_int rfl (by decide) w.heap.size (.slice ag3 c.getters.length pg3) c.getters rfl Og3_4.out t _ rfl _ rfl (by first | omega | (have := Q4.out; omega)) (by decide) (by omega) (by first | omega | (have := Q4.out; omega)) ?_; intro ad5 cp5 w5 hown hg hat; have hqq := Q4.out; obtain ⟨g3L5, hg3L5⟩ : ∃ l, c.getters ++ [t] = l := ⟨_, rfl⟩; have lg3L5 : c.getters.length + 1 = g3L5.length := (by rw [← hg3L5, List.length_append, List.length_singleton]); rw [hg3L5, lg3L5] at hown; rw [lg3L5]; have Hg3L5 := Lib.hid hg3L5; clear hg3L5; have Kg3L5 := Lib.hid lg3L5; clear lg3L5; rw [Kg3L5.out] at hat; have ANg3_nn_5 := Lib.hid (Apart.push (v' := .slice ad5 g3L5.length cp5) APg3_nn.out hat Onn_4.out.hi (by first | omega | (simp only [szA, szS]; omega))); have ANg3_g1_5 := Lib.hid (Apart.push (v' := .slice ad5 g3L5.length cp5) APg13.out.symm hat Og1_4.out.hi (by first | omega | (simp only [szA, szS]; omega))); clear hat; have Xp_5 := Lib.hid (grown_at2 hg (heap_up Xp_4.out) (Og3_4.out.ne Xp_4.out (by decide))); have Xres_5 := Lib.hid (grown_at2 hg (heap_up Xres_4.out) (Og3_4.out.ne Xres_4.out (by decide))); have Xout_5 := Lib.hid (grown_at2 hg (heap_up Xout_4.out) (Og3_4.out.ne Xout_4.out (by decide))); have Onn_5 := Lib.hid ((Onn_4.out.alloc _).apart hg APg3_nn.out); have Og1_5 := Lib.hid ((Og1_4.out.alloc _).apart hg APg13.out.symm); have Og2_5 := Lib.hid ((Og2_4.out.alloc _).apart hg (Own.apart_types Og3_4.out Og2_4.out (by decide))); have Og3_5 := Lib.hid hown; have B5 := Lib.hid (Below.grown (Below.alloc B4.out (by first | omega | (simp only [szA, szS, szD, World.heap_drewN] at * <;> omega)) _) hg (by first | omega | (simp only [szA, szS, szD, World.heap_drewN]; omega)) (fun g e => Nat.le_trans (by omega) (Og3_4.out.blk g e))); have N5 : w4.heap.size + 1 ≤ w5.heap.size := (by first | with_reducible exact hg.size | (have := hg.size; simp only [szA, szS, szD] at this; omega)); clear hown hg; obtain ⟨cp5_0, cp5_1, cp5_2, cp5_3, cp5_4, fp5_0, fp5_1, fp5_2, fp5_3, fp5_4⟩ := box5 Xp_5.out; have lp5 := heap_lt Xp_5.out; obtain ⟨cres5_0, cres5_1, cres5_2, cres5_3, cres5_4, fres5_0, fres5_1, fres5_2, fres5_3, fres5_4⟩ := box5 Xres_5.out; have lres5 := heap_lt Xres_5.out; obtain ⟨cout5_0, cout5_1, cout5_2, cout5_3, cout5_4, fout5_0, fout5_1, fout5_2, fout5_3, fout5_4⟩ := box5 Xout_5.out; have lout5 := heap_lt Xout_5.out; have S5 : w.heap.size ≤ w5.heap.size := (by omega); clear hqq))
              clear cp3_0 cp3_1 cp3_2 cp3_3 cp3_4 fp3_0 fp3_1 fp3_2 fp3_3 fp3_4 cres3_0 cres3_1 cres3_2 cres3_3 cres3_4 fres3_0 fres3_1 fres3_2 fres3_3 fres3_4 cp4_0 cp4_1 cp4_2 cp4_3 cp4_4 fp4_0 fp4_1 fp4_2 fp4_3 fp4_4 cres4_0 cres4_1 cres4_2 cres4_3 cres4_4 fres4_0 fres4_1 fres4_2 fres4_3 fres4_4 cout4_0 cout4_1 cout4_2 cout4_3 cout4_4 fout4_0 fout4_1 fout4_2 fout4_3 fout4_4
              rw [Hg3L5.out] at e1; subst e1
              go_wp2_with (fail)
              refine bodyPost_ret (v := .tuple #[.agg #[.int .i64 c.room, .slice ag1 c.items.length pg1, .slice ag2 c.senders.length pg2, .slice ad5 g3L5.length cp5, .bool c.closed], .int .i64 0, .int .i64 0, .slice (some ⟨w.heap.size + 2, 0, none⟩) 0 0, .bool true]) (by simp [results, Try.results39, go_sem, cres5_0, cres5_1, cres5_2, cres5_3, cres5_4, lres5]) rfl ⟨_, _, rfl, ChanOwn.make (sets5_own (Og1_5.out.setB (w3.heap.size) 3 Xout_5.out (by decide) (.slice ad5 g3L5.length cp5)) (set_off (a := ⟨w3.heap.size, 3, none⟩) Xres_5.out (by first | omega | (simp only [szA, szS, szD, World.heap_drewN] at * <;> omega)) (.slice ad5 g3L5.length cp5)) (by decide) (.int .i64 c.room) (.slice ag1 c.items.length pg1) (.slice ag2 c.senders.length pg2) (.slice ad5 g3L5.length cp5) (.bool c.closed)) (sets5_own (Og2_5.out.setB (w3.heap.size) 3 Xout_5.out (by decide) (.slice ad5 g3L5.length cp5)) (set_off (a := ⟨w3.heap.size, 3, none⟩) Xres_5.out (by first | omega | (simp only [szA, szS, szD, World.heap_drewN] at * <;> omega)) (.slice ad5 g3L5.length cp5)) (by decide) (.int .i64 c.room) (.slice ag1 c.items.length pg1) (.slice ag2 c.senders.length pg2) (.slice ad5 g3L5.length cp5) (.bool c.closed)) (sets5_own (Og3_5.out.setB (w3.heap.size) 3 Xout_5.out (by decide) (.slice ad5 g3L5.length cp5)) (set_off (a := ⟨w3.heap.size, 3, none⟩) Xres_5.out (by first | omega | (simp only [szA, szS, szD, World.heap_drewN] at * <;> omega)) (.slice ad5 g3L5.length cp5)) (by decide) (.int .i64 c.room) (.slice ag1 c.items.length pg1) (.slice ag2 c.senders.length pg2) (.slice ad5 g3L5.length cp5) (.bool c.closed)) (Nat.le_refl _) ANg3_g1_5.out.symm, LOwn.of (sets5_own (Onn_5.out.setB (w3.heap.size) 3 Xout_5.out (by decide) (.slice ad5 g3L5.length cp5)) (set_off (a := ⟨w3.heap.size, 3, none⟩) Xres_5.out (by first | omega | (simp only [szA, szS, szD, World.heap_drewN] at * <;> omega)) (.slice ad5 g3L5.length cp5)) (by decide) (.int .i64 c.room) (.slice ag1 c.items.length pg1) (.slice ag2 c.senders.length pg2) (.slice ad5 g3L5.length cp5) (.bool c.closed)) (Nat.le_refl _), (sets5_below (below_setAt B5.out (w3.heap.size) 3 (by first | omega | (simp only [szA, szS, szD, World.heap_drewN] at * <;> omega)) (.slice ad5 g3L5.length cp5)) (by first | omega | (simp only [szA, szS, szD, World.heap_drewN] at * <;> omega)) (.int .i64 c.room) (.slice ag1 c.items.length pg1) (.slice ag2 c.senders.length pg2) (.slice ad5 g3L5.length cp5) (.bool c.closed))⟩
end Go.Proofs.Ytpgiinklbnlloaa
