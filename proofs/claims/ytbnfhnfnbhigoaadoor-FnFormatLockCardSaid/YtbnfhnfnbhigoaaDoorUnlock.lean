/- Unlock of the reference (made by gen_lock.py). -/
import Derived.Test.YtbnfhnfnbhigoaaDoorLockFor
import Derived.Test.YtbnfhnfnbhigoaaDoorJoin
import Derived.Deep.RegionHeld3
import Derived.Deep.DrawnRows
namespace Go.Proofs.YtbnfhnfnbhigoaaDoor
open Go.RowKit
set_option linter.unusedSimpArgs false
set_option linter.unusedVariables false
theorem Row.head {α : Type} {k : Nat} {enc : α → List Value} {w : World} {a : Option Addr} {n cap : Nat} {q : List α} (h : Row k enc w (.slice a n cap) q) {i : Nat} (hi : i ≤ q.length) : Row k enc w (.slice a i cap) (q.take i) := by
  obtain ⟨a', c, e, h1, h2, h3, h4⟩ := h
  simp only [Value.slice.injEq] at e
  obtain ⟨rfl, rfl, rfl⟩ := e
  have hl : (q.take i).length = i := by simp; omega
  refine ⟨_, _, by rw [hl], by omega, h2, h3, fun hn => ?_⟩
  obtain ⟨b, off, e2, hlt, hc⟩ := h4 (by omega)
  refine ⟨b, off, e2, hlt, fun m x hx j u hu => hc m x ?_ j u hu⟩
  rw [List.getElem?_take] at hx
  split at hx
  · exact hx
  · cases hx
theorem Row.rest {α : Type} {k : Nat} {enc : α → List Value} {w : World} {b off n cap : Nat} {q : List α} (h : Row k enc w (.slice (some ⟨b, off, none⟩) n cap) q) {i : Nat} (hi : i ≤ q.length) :
    Row k enc w (.slice (if cap = i then some ⟨b, off, none⟩ else some ⟨b, off + i * k, none⟩) (q.length - i) (cap - i)) (q.drop i) := by
  obtain ⟨a, c, e, h1, h2, h3, h4⟩ := h
  simp only [Value.slice.injEq] at e
  obtain ⟨rfl, rfl, rfl⟩ := e
  have hl : (q.drop i).length = q.length - i := by simp
  refine ⟨_, _, by rw [hl], by omega, by omega, (fun e => by split at e <;> cases e), fun hn => ?_⟩
  obtain ⟨b', off', e2, hlt, hc⟩ := h4 (by omega)
  cases e2
  refine ⟨b, off + i * k, by rw [if_neg (by omega)], hlt, fun m x hx j u hu => ?_⟩
  have := hc (i + m) x (by simpa using hx) j u hu
  rw [show off + i * k + m * k + j = off + (i + m) * k + j by rw [Nat.add_mul]; omega]
  exact this

def UnlockPost (w : World) (e : Ending) (w' : World) : Prop := ∃ v' u' r b, e = .returned (.tuple #[v', u', .bool b]) ∧ LockOwn w.heap.size w'.heap.size w' v' r ∧ LockShort r ∧ Below w.heap.size w w'
set_option maxHeartbeats 8000000 in
theorem sUnlock_calls (v : Value) (c : LockD) (t : Int) (w : World) (h : LockRow w v c) (hn : c.readers.length + c.q.length ≤ 1000) :
    Calls Tryd.prog 48 #[v, .int .i64 t] w (UnlockPost w) := by
  have HP := Lib.hid h
  obtain ⟨aP0, pP0, aP2, pP2, rfl, hr0, hr2⟩ := h
  have HI0 := Lib.hid hr0; have HI2 := Lib.hid hr2; clear hr0 hr2
  go_enter Tryd.func48, Tryd.ntmps48
  go_wp2_with (fail)
  refine (sHoldsLock_calls _ c t _ (LockRow.below HP.out (Below.alloc (Below.alloc (Below.refl _ _) (by first | omega | (simp only [szA, szS, szD, World.heap_drewN] at * <;> omega)) _) (by first | omega | (simp only [szA, szS, szD, World.heap_drewN] at * <;> omega)) _)) (by omega)).mono ?_
  rintro e w1 ⟨rfl, hb⟩
  have B1 := Lib.hid (Below.trans (Below.alloc (Below.alloc (Below.refl _ _) (by first | omega | (simp only [szA, szS, szD, World.heap_drewN] at * <;> omega)) _) (by first | omega | (simp only [szA, szS, szD, World.heap_drewN] at * <;> omega)) _) (hb.mono (by first | omega | (simp only [szA, szS, szD, World.heap_drewN] at * <;> omega))) : Below w.heap.size w w1)
  have Z1 := hb.size
  have N1 : w.heap.size + 2 ≤ w1.heap.size := (by first | with_reducible exact Z1 | (simp only [szA, szS, szD] at Z1; omega))
  clear Z1
  have Xp_1 : Hid (w1.heap[w.heap.size]? = some (.cells #[.slice aP0 c.readers.length pP0, .int .i64 c.writer, .slice aP2 c.q.length pP2] 30 (0, 0))) := below_at hb (heap_up (heap_at' (n := w.heap.size) (by first | omega | (simp only [szA, szS, szD, World.heap_drewN] at * <;> omega))))
  have Xres_1 : Hid (w1.heap[w.heap.size + 1]? = some (.cells #[.slice none 0 0, .int .i64 0, .slice none 0 0] 30 (0, 0))) := below_at hb (heap_at' (n := w.heap.size + 1) (by first | omega | (simp only [szA, szS, szD, World.heap_drewN] at * <;> omega)))
  clear hb
  obtain ⟨cp1_0, cp1_1, cp1_2, fp1_0, fp1_1, fp1_2⟩ := box3 Xp_1.out; have lp1 := heap_lt Xp_1.out
  obtain ⟨cres1_0, cres1_1, cres1_2, fres1_0, fres1_1, fres1_2⟩ := box3 Xres_1.out; have lres1 := heap_lt Xres_1.out
  have S1 : w.heap.size ≤ w1.heap.size := (by omega)
  cases hv : holdsB c t
  · clear hv
    go_wp2_with (fail)
    refine bodyPost_ret (v := .tuple #[.agg #[.slice none 0 0, .int .i64 0, .slice none 0 0], .slice (some ⟨w1.heap.size, 0, none⟩) 0 0, .bool false]) (by simp [results, Tryd.results48, go_sem, cres1_0, cres1_1, cres1_2, lres1]) rfl ⟨_, _, _, _, rfl, LockOwn.nils, by simp [LockShort], (Below.alloc (sets3_below B1.out (by first | omega | (simp only [szA, szS, szD, World.heap_drewN] at * <;> omega)) (.slice none 0 0) (.int .i64 0) (.slice none 0 0)) (by first | omega | (simp only [szA, szS, szD, World.heap_drewN] at * <;> omega)) _)⟩
  · have hv2 := hv; simp only [holdsB, Bool.and_eq_true] at hv2; obtain ⟨⟨hva, -⟩, hvc⟩ := hv2
    have HS := Lib.hid (lockB_true.1 hva).small; have HC := Lib.hid hvc; clear hv hva hvc
    go_wp2_with (fail)
    refine (l4Copy_calls _ c _ (LockRow.below HP.out B1.out) (by omega)).mono ?_
    rintro e w2 ⟨vg, rfl, ho_g, hb⟩
    have B2 := Lib.hid (Below.trans B1.out (hb.mono (by first | omega | (simp only [szA, szS, szD, World.heap_drewN] at * <;> omega))) : Below w.heap.size w w2)
    have Z2 := hb.size
    have N2 : w1.heap.size ≤ w2.heap.size := (by first | with_reducible exact Z2 | (simp only [szA, szS, szD] at Z2; omega))
    clear Z2
    have Xp_2 := Lib.hid (below_at hb Xp_1.out)
    have Xres_2 := Lib.hid (below_at hb Xres_1.out)
    obtain ⟨ag0, pg0, ag2, pg2, rfl, ho0, hx0, ho2, hx2⟩ := ho_g
    have Og0_2 := Lib.hid (Own.mono (base' := w.heap.size) ho0 (by first | omega | (simp only [szA, szS, szD, World.heap_drewN] at * <;> omega))); clear ho0 hx0
    have Og2_2 := Lib.hid (Own.mono (base' := w.heap.size) ho2 (by first | omega | (simp only [szA, szS, szD, World.heap_drewN] at * <;> omega))); clear ho2 hx2
    clear hb
    obtain ⟨cp2_0, cp2_1, cp2_2, fp2_0, fp2_1, fp2_2⟩ := box3 Xp_2.out; have lp2 := heap_lt Xp_2.out
    obtain ⟨cres2_0, cres2_1, cres2_2, fres2_0, fres2_1, fres2_2⟩ := box3 Xres_2.out; have lres2 := heap_lt Xres_2.out
    have S2 : w.heap.size ≤ w2.heap.size := (by omega)
    clear cp1_0 cp1_1 cp1_2 fp1_0 fp1_1 fp1_2 cres1_0 cres1_1 cres1_2 fres1_0 fres1_1 fres1_2
    obtain ⟨w3, hw⟩ : ∃ x : World, x = (w2.alloc (.cells #[.slice ag0 c.readers.length pg0, .int .i64 c.writer, .slice ag2 c.q.length pg2] 30)) := ⟨_, rfl⟩
    have B3 := Lib.hid (show Below w.heap.size w w3 by rw [hw]; exact (Below.alloc B2.out (by first | omega | (simp only [szA, szS, szD, World.heap_drewN] at * <;> omega)) _))
    have N3 : w2.heap.size + 1 ≤ w3.heap.size := (by rw [hw]; simp only [szS, szA]; omega)
    have Og0_3 := Lib.hid (show Own w.heap.size 3 1 encI w3 (.slice ag0 c.readers.length pg0) c.readers by rw [hw]; exact (Og0_2.out.alloc _))
    have Og2_3 := Lib.hid (show Own w.heap.size 45 2 encW w3 (.slice ag2 c.q.length pg2) c.q by rw [hw]; exact (Og2_2.out.alloc _))
    have Xp_3 := Lib.hid (show w3.heap[w.heap.size]? = some (.cells #[.slice aP0 c.readers.length pP0, .int .i64 c.writer, .slice aP2 c.q.length pP2] 30 (0, 0)) by rw [hw]; exact (heap_up Xp_2.out))
    have Xres_3 := Lib.hid (show w3.heap[w.heap.size + 1]? = some (.cells #[.slice none 0 0, .int .i64 0, .slice none 0 0] 30 (0, 0)) by rw [hw]; exact (heap_up Xres_2.out))
    have Xout_3 := Lib.hid (show w3.heap[w2.heap.size]? = some (.cells #[.slice ag0 c.readers.length pg0, .int .i64 c.writer, .slice ag2 c.q.length pg2] 30 (0, 0)) by rw [hw]; exact (heap_at' (n := w2.heap.size) (by first | omega | (simp only [szA, szS, szD, World.heap_drewN] at * <;> omega))))
    have Q3 := Lib.hid (show w3.heap.size = w2.heap.size + 1 by rw [hw]; simp only [szS, szA])
    have HW3 := Lib.hid hw; clear hw
    obtain ⟨cp3_0, cp3_1, cp3_2, fp3_0, fp3_1, fp3_2⟩ := box3 Xp_3.out; have lp3 := heap_lt Xp_3.out
    obtain ⟨cres3_0, cres3_1, cres3_2, fres3_0, fres3_1, fres3_2⟩ := box3 Xres_3.out; have lres3 := heap_lt Xres_3.out
    obtain ⟨cout3_0, cout3_1, cout3_2, fout3_0, fout3_1, fout3_2⟩ := box3 Xout_3.out; have lout3 := heap_lt Xout_3.out
    have S3 : w.heap.size ≤ w3.heap.size := (by omega)
    by_cases hw : c.writer = t
    · have d1 : (c.writer == t) = true := beq_iff_eq.2 hw
      clear hw
      go_wp2_with (rw [← HW3.out])
      refine (l4Give_calls _ ⟨c.readers, -1, c.q⟩ _ ⟨_, _, _, _, rfl, Own.row encI_len (Og0_3.out.setB (w2.heap.size) 1 Xout_3.out (by decide) (.int .i64 (-1))), Own.row encW_len (Og2_3.out.setB (w2.heap.size) 1 Xout_3.out (by decide) (.int .i64 (-1)))⟩ (by skip; have := HS.out; dsimp only; omega)).mono ?_
      rintro e w4 ⟨vr, vu, r, g, rfl, ho_r, hu, l1, l2, l3, hb⟩
      have B4 := Lib.hid (Below.trans (below_setAt B3.out (w2.heap.size) 1 (by first | omega | (simp only [szA, szS, szD, World.heap_drewN] at * <;> omega)) (.int .i64 (-1))) (hb.mono (by first | omega | (simp only [szA, szS, szD, World.heap_drewN] at * <;> omega))) : Below w.heap.size w w4)
      have Z4 := hb.size
      have N4 : w3.heap.size ≤ w4.heap.size := (by first | with_reducible exact Z4 | (simp only [szA, szS, szD] at Z4; omega))
      clear Z4
      have Xp_4 := Lib.hid (below_at hb (set_off (a := ⟨w2.heap.size, 1, none⟩) Xp_3.out (by first | omega | (simp only [szA, szS, szD, World.heap_drewN] at * <;> omega)) (.int .i64 (-1))))
      have Xres_4 := Lib.hid (below_at hb (set_off (a := ⟨w2.heap.size, 1, none⟩) Xres_3.out (by first | omega | (simp only [szA, szS, szD, World.heap_drewN] at * <;> omega)) (.int .i64 (-1))))
      have Xout_4 := Lib.hid (below_at hb (set_at (a := ⟨w2.heap.size, 1, none⟩) Xout_3.out rfl rfl (.int .i64 (-1))))
      have Og0_4 := Lib.hid ((Og0_3.out.setB (w2.heap.size) 1 Xout_3.out (by decide) (.int .i64 (-1))).kept hb)
      have Og2_4 := Lib.hid ((Og2_3.out.setB (w2.heap.size) 1 Xout_3.out (by decide) (.int .i64 (-1))).kept hb)
      have Or_4 := Lib.hid (ho_r.mono (lo' := w.heap.size) (by first | omega | (simp only [szA, szS, szD, World.heap_drewN] at * <;> omega)) (Nat.le_refl _)); obtain ⟨ar0, pr0, ar2, pr2, rfl, hx_r⟩ := ho_r; clear hx_r
      clear hb
      obtain ⟨cp4_0, cp4_1, cp4_2, fp4_0, fp4_1, fp4_2⟩ := box3 Xp_4.out; have lp4 := heap_lt Xp_4.out
      obtain ⟨cres4_0, cres4_1, cres4_2, fres4_0, fres4_1, fres4_2⟩ := box3 Xres_4.out; have lres4 := heap_lt Xres_4.out
      obtain ⟨cout4_0, cout4_1, cout4_2, fout4_0, fout4_1, fout4_2⟩ := box3 Xout_4.out; have lout4 := heap_lt Xout_4.out
      have S4 : w.heap.size ≤ w4.heap.size := (by omega)
      clear cp2_0 cp2_1 cp2_2 fp2_0 fp2_1 fp2_2 cres2_0 cres2_1 cres2_2 fres2_0 fres2_1 fres2_2 cp3_0 cp3_1 cp3_2 fp3_0 fp3_1 fp3_2 cres3_0 cres3_1 cres3_2 fres3_0 fres3_1 fres3_2 cout3_0 cout3_1 cout3_2 fout3_0 fout3_1 fout3_2
      dsimp only at l1 l2 l3
      obtain ⟨au, pu, rfl, _⟩ := hu
      have LL := Lib.hid (show LockShort r by skip; have := HS.out; unfold LockShort; omega)
      clear l1 l2 l3
      have nn : w4.heap.size ≠ w.heap.size + 1 := by omega
      have nn2 := nn.symm
      go_wp2_with (fail)
      refine bodyPost_ret (v := .tuple #[.agg #[.slice ar0 r.readers.length pr0, .int .i64 r.writer, .slice ar2 r.q.length pr2], .slice au g.length pu, .bool true]) (by simp [results, Tryd.results48, go_sem, cres4_0, cres4_1, cres4_2, lres4, nn, nn2]) rfl ⟨_, _, r, _, rfl, ((Or_4.out.grownX (sets3_grown _ (w.heap.size + 1) (.slice ar0 r.readers.length pr0) (.int .i64 r.writer) (.slice ar2 r.q.length pr2)) Xres_4.out (by decide)).alloc _).mono (by first | omega | (simp only [szA, szS, szD, World.heap_drewN] at * <;> omega)) (by first | omega | (simp only [szA, szS, szD, World.heap_drewN] at * <;> omega)), LL.out, (Below.alloc (sets3_below B4.out (by first | omega | (simp only [szA, szS, szD, World.heap_drewN] at * <;> omega)) (.slice ar0 r.readers.length pr0) (.int .i64 r.writer) (.slice ar2 r.q.length pr2)) (by first | omega | (simp only [szA, szS, szD, World.heap_drewN] at * <;> omega)) _)⟩
    · have d1 : (c.writer == t) = false := beq_eq_false_iff_ne.2 hw
      have hin : t ∈ c.readers := by have h8 := HC.out; simp only [hasB, Bool.or_eq_true, decide_eq_true_eq] at h8; exact h8.resolve_left hw
      obtain ⟨k, hk⟩ := Int.eq_ofNat_of_zero_le (place_in hin)
      have hkl : k < c.readers.length := by have := place_lt (t := t) (q := c.readers); omega
      have HK := Lib.hid hk; clear hk hin hw
      obtain ⟨_, _, e2, hrc, hrm, rr⟩ := HI0.out.look; injection e2 with e3 _ e4; subst e3 e4
      obtain ⟨b, o, rfl, hbl, -⟩ := rr (by omega)
      clear rr
      obtain ⟨q1, hq1⟩ : ∃ q1, q1 = c.readers.take k := ⟨_, rfl⟩
      obtain ⟨q2, hq2⟩ : ∃ q2, q2 = c.readers.drop (k + 1) := ⟨_, rfl⟩
      have HL1 := Lib.hid (show q1.length = k by rw [hq1]; simp; omega)
      have HL2 := Lib.hid (show q2.length = c.readers.length - (k + 1) by rw [hq2]; simp)
      obtain ⟨qc, hqc⟩ : ∃ qc, q1 ++ q2 = qc := ⟨_, rfl⟩
      have HQC := Lib.hid hqc
      obtain ⟨A, hA⟩ : ∃ A : Addr, (if pP0 = k + 1 then (some (⟨b, o, none⟩ : Addr)) else some ⟨b, o + (k + 1) * 1, none⟩) = some A := by split <;> exact ⟨_, rfl⟩
      have HR1 := Lib.hid (show IRow w (.slice (some ⟨b, o, none⟩) k pP0) q1 by rw [hq1]; exact Row.head HI0.out (by omega))
      have HR2 := Lib.hid (show IRow w (.slice (some A) (c.readers.length - (k + 1)) (pP0 - (k + 1))) q2 by rw [hq2, ← hA]; exact Row.rest HI0.out (by omega))
      have HQL := Lib.hid (show qc.length = c.readers.length - 1 by have := HL1.out; have := HL2.out; rw [← hqc, List.length_append]; omega)
      clear hq1 hq2 hqc
      rw [Nat.mul_one] at hA
      have hic : k ≤ pP0 := by omega
      have hjc : k + 1 ≤ pP0 := by omega
      have hz0 : (0 : Int) ≤ (k : Int) + 1 := by omega
      have hzn : (k : Int) + 1 ≤ (c.readers.length : Int) := by omega
      have hkc : (k : Int) ≤ (pP0 : Int) := by omega
      have hwr : IntKind.i64.wrap ((k : Int) + 1) = (k : Int) + 1 := IntWalk.i64_in _ (by omega)
      have hz00 : (0 : Int) ≤ (k : Int) := by omega
      have hkn : (k : Int) ≤ (c.readers.length : Int) := by omega
      have hrc2 : (c.readers.length : Int) ≤ (pP0 : Int) := by omega
      go_wp2_with (rw [← HW3.out])
      refine (l2At_calls _ c.readers t _ (Row.below HI0.out B3.out)).mono ?_
      rw [HK.out]
      rintro e w' ⟨rfl, rfl⟩
      go_wp2_with (fail)
      have ne_p : w.heap.size ≠ w3.heap.size := (by omega); have nf_p := ne_p.symm
      have ne_out : w2.heap.size ≠ w3.heap.size := (by omega); have nf_out := ne_out.symm
      have ne_res : w.heap.size + 1 ≠ w3.heap.size := (by omega); have nf_res := ne_res.symm
      have nb : b ≠ w3.heap.size := by omega
      have npo : w.heap.size ≠ w2.heap.size := by omega
      have npo2 := npo.symm
      go_region_held3 (fun w' => w'.cell? ⟨w.heap.size, 0, none⟩ = some (.slice (some ⟨b, o, none⟩) c.readers.length pP0)) (go_keep)
        (first
          | (refine step_clone _ encI_len encI_one (by rfl) _ _ 22 (by rfl) 3 _ 8 Tryd.underlying22 info_int rfl (by decide) w3.heap.size _ (by rfl) (by exact heap_at w3 _) (by omega) (.slice (some ⟨b, o, none⟩) k pP0) q1 (by rfl) (by exact Row.below (Row.below HR1.out B3.out) ((Below.refl _ _).alloc (Nat.le_refl _) _).drew) (by decide) (by have := HL1.out; have := HS.out; omega) ?_; intro ad4 cp4 w40 hown hg; have HO4 := Lib.hid hown; clear hown; have HG4 := Lib.hid (clone_below hg); clear hg; obtain ⟨t0, t1, t2, ft0, ft1, ft2⟩ := box3 (below_at HG4.out Xp_3.out))
          | (refine step_join _ encI_len encI_one (by rfl) _ _ 22 (by rfl) 3 _ 8 Tryd.underlying22 info_int rfl (by decide) w3.heap.size _ q1 (by rfl) HO4.out (by exact HG4.out.size) (.slice (some A) (c.readers.length - (k + 1)) (pP0 - (k + 1))) q2 (by rfl) (by exact Row.below (Row.below HR2.out B3.out) HG4.out) (by decide) (by have := HL1.out; have := HL2.out; have := HS.out; omega) ?_; intro ad5 cp5 w4 hown hg; have e5 : q1.length + q2.length = qc.length := (by rw [← HQC.out, List.length_append]); rw [HQC.out, e5] at hown; rw [e5]; clear e5; have Onr_4 := Lib.hid (Own.mono (base' := w.heap.size) hown (by omega)); have HG5 := Lib.hid (Below.trans (B := w3.heap.size) (a := w3) HG4.out (grown_below hg (by exact HG4.out.size) (fun g e => (by have h := (HO4.out.block g e).1; exact h)))); clear hown hg; have Xp_4 := Lib.hid (below_at HG5.out Xp_3.out); have Xres_4 := Lib.hid (below_at HG5.out Xres_3.out); have Xout_4 := Lib.hid (below_at HG5.out Xout_3.out); have Og2_4 := Lib.hid (Og2_3.out.kept HG5.out); have B4 := Lib.hid (Below.trans B3.out (HG5.out.mono (by omega))); have N4 : w3.heap.size ≤ w4.heap.size := HG5.out.size; obtain ⟨cp4_0, cp4_1, cp4_2, fp4_0, fp4_1, fp4_2⟩ := box3 Xp_4.out; have lp4 := heap_lt Xp_4.out; obtain ⟨cres4_0, cres4_1, cres4_2, fres4_0, fres4_1, fres4_2⟩ := box3 Xres_4.out; have lres4 := heap_lt Xres_4.out; obtain ⟨cout4_0, cout4_1, cout4_2, fout4_0, fout4_1, fout4_2⟩ := box3 Xout_4.out; have lout4 := heap_lt Xout_4.out; have S4 : w.heap.size ≤ w4.heap.size := (by omega)))
      all_goals
        go_wp2_with (fail)
        refine (l4Give_calls _ ⟨qc, c.writer, c.q⟩ _ ⟨_, _, _, _, rfl, Own.row encI_len (Onr_4.out.setB (w2.heap.size) 0 Xout_4.out (by decide) (.slice ad5 qc.length cp5)), Own.row encW_len (Og2_4.out.setB (w2.heap.size) 0 Xout_4.out (by decide) (.slice ad5 qc.length cp5))⟩ (by have := HQL.out; have := HS.out; dsimp only; omega)).mono ?_
        rintro e w5 ⟨vr, vu, r, g, rfl, ho_r, hu, l1, l2, l3, hb⟩
        have B5 := Lib.hid (Below.trans (below_setAt B4.out (w2.heap.size) 0 (by first | omega | (simp only [szA, szS, szD, World.heap_drewN] at * <;> omega)) (.slice ad5 qc.length cp5)) (hb.mono (by first | omega | (simp only [szA, szS, szD, World.heap_drewN] at * <;> omega))) : Below w.heap.size w w5)
        have Z5 := hb.size
        have N5 : w4.heap.size ≤ w5.heap.size := (by first | with_reducible exact Z5 | (simp only [szA, szS, szD] at Z5; omega))
        clear Z5
        have Xp_5 := Lib.hid (below_at hb (set_off (a := ⟨w2.heap.size, 0, none⟩) Xp_4.out (by first | omega | (simp only [szA, szS, szD, World.heap_drewN] at * <;> omega)) (.slice ad5 qc.length cp5)))
        have Xres_5 := Lib.hid (below_at hb (set_off (a := ⟨w2.heap.size, 0, none⟩) Xres_4.out (by first | omega | (simp only [szA, szS, szD, World.heap_drewN] at * <;> omega)) (.slice ad5 qc.length cp5)))
        have Xout_5 := Lib.hid (below_at hb (set_at (a := ⟨w2.heap.size, 0, none⟩) Xout_4.out rfl rfl (.slice ad5 qc.length cp5)))
        have Og2_5 := Lib.hid ((Og2_4.out.setB (w2.heap.size) 0 Xout_4.out (by decide) (.slice ad5 qc.length cp5)).kept hb)
        have Onr_5 := Lib.hid ((Onr_4.out.setB (w2.heap.size) 0 Xout_4.out (by decide) (.slice ad5 qc.length cp5)).kept hb)
        have Or_5 := Lib.hid (ho_r.mono (lo' := w.heap.size) (by first | omega | (simp only [szA, szS, szD, World.heap_drewN] at * <;> omega)) (Nat.le_refl _)); obtain ⟨ar0, pr0, ar2, pr2, rfl, hx_r⟩ := ho_r; clear hx_r
        clear hb
        obtain ⟨cp5_0, cp5_1, cp5_2, fp5_0, fp5_1, fp5_2⟩ := box3 Xp_5.out; have lp5 := heap_lt Xp_5.out
        obtain ⟨cres5_0, cres5_1, cres5_2, fres5_0, fres5_1, fres5_2⟩ := box3 Xres_5.out; have lres5 := heap_lt Xres_5.out
        obtain ⟨cout5_0, cout5_1, cout5_2, fout5_0, fout5_1, fout5_2⟩ := box3 Xout_5.out; have lout5 := heap_lt Xout_5.out
        have S5 : w.heap.size ≤ w5.heap.size := (by omega)
        dsimp only at l1 l2 l3
        obtain ⟨au, pu, rfl, _⟩ := hu
        have LL := Lib.hid (show LockShort r by have := HQL.out; have := HS.out; unfold LockShort; omega)
        clear l1 l2 l3
        have nn : w5.heap.size ≠ w.heap.size + 1 := by omega
        have nn2 := nn.symm
        go_wp2_with (fail)
        refine bodyPost_ret (v := .tuple #[.agg #[.slice ar0 r.readers.length pr0, .int .i64 r.writer, .slice ar2 r.q.length pr2], .slice au g.length pu, .bool true]) (by simp [results, Tryd.results48, go_sem, cres5_0, cres5_1, cres5_2, lres5, nn, nn2]) rfl ⟨_, _, r, _, rfl, ((Or_5.out.grownX (sets3_grown _ (w.heap.size + 1) (.slice ar0 r.readers.length pr0) (.int .i64 r.writer) (.slice ar2 r.q.length pr2)) Xres_5.out (by decide)).alloc _).mono (by first | omega | (simp only [szA, szS, szD, World.heap_drewN] at * <;> omega)) (by first | omega | (simp only [szA, szS, szD, World.heap_drewN] at * <;> omega)), LL.out, (Below.alloc (sets3_below B5.out (by first | omega | (simp only [szA, szS, szD, World.heap_drewN] at * <;> omega)) (.slice ar0 r.readers.length pr0) (.int .i64 r.writer) (.slice ar2 r.q.length pr2)) (by first | omega | (simp only [szA, szS, szD, World.heap_drewN] at * <;> omega)) _)⟩
end Go.Proofs.YtbnfhnfnbhigoaaDoor
