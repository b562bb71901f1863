/- FailOnce of both: what they return (made by gen_fail.py). -/
import Derived.Test.YtmmkbiljjhigfaaLawOnce
import Derived.Test.YtmmkbiljjhigfaaDelW
import Derived.Deep.RegionHeld3
import Derived.Deep.RegionLaw
namespace Go.Proofs.Ytmmkbiljjhigfaa
open Go.RowKit
set_option linter.unusedSimpArgs false
set_option linter.unusedVariables false
theorem fail_no {o r : OnceD} {t : Int} {b : Bool} (h : failD o t = (r, b)) (hn : runsB o t = false) : r = OnceD.zero ∧ b = false := by
  unfold failD at h; rw [if_neg (by rw [hn]; decide)] at h; injection h with h1 h2; exact ⟨h1.symm, h2.symm⟩
theorem fail_nil {o r : OnceD} {t : Int} {b : Bool} (h : failD o t = (r, b)) (hn : runsB o t = true) (hl : ¬ 0 < o.waits.length) : r = OnceD.zero ∧ b = true := by
  have hw : o.waits = [] := List.length_eq_zero_iff.1 (by omega)
  unfold failD at h; rw [if_pos hn, hw] at h; injection h with h1 h2; exact ⟨h1.symm, h2.symm⟩
theorem fail_next {o r : OnceD} {t y : Int} {b : Bool} (h : failD o t = (r, b)) (hn : runsB o t = true) (hy : o.waits[0]? = some y) : r = ⟨1, y, 0, o.waits.drop 1⟩ ∧ b = true := by
  unfold failD at h; rw [if_pos hn] at h
  cases hw : o.waits with
  | nil => rw [hw] at hy; cases hy
  | cons x q =>
    rw [hw] at h hy
    simp only [List.getElem?_cons_zero, Option.some.injEq] at hy
    subst hy
    injection h with h1 h2; exact ⟨h1.symm, h2.symm⟩
set_option maxHeartbeats 3200000 in
theorem FailOnceO (v : Value) (o : OnceD) (t : Int) (r : OnceD) (b1 : Bool) (w : World) (h : OnceRow w v o) (hr : failD o t = (r, b1)) :
    Calls Try.prog 30 #[v, .int .i64 t] w fun e w' => ∃ v', e = .returned (.tuple #[v', .bool b1]) ∧ OnceOwn w.heap.size w'.heap.size w' v' r ∧ Below w.heap.size w w' := by
  have HP := Lib.hid h
  obtain ⟨aP3, pP3, rfl, hq⟩ := h
  have HI := Lib.hid hq; clear hq
  have HR := Lib.hid hr; clear hr
  go_enter Try.func30, Try.ntmps30
  go_wp2_with (fail)
  refine (OnceValid_calls _ o _ (OnceRow.below HP.out (Below.alloc (Below.alloc (Below.refl _ _) (by first | omega | (simp only [szA, szS, szD, World.heap_drewN] at * <;> omega)) _) (by first | omega | (simp only [szA, szS, szD, World.heap_drewN] at * <;> omega)) _))).mono ?_
  rintro e w1 ⟨rfl, hb⟩
  have B1 := Lib.hid (Below.trans (Below.alloc (Below.alloc (Below.refl _ _) (by first | omega | (simp only [szA, szS, szD, World.heap_drewN] at * <;> omega)) _) (by first | omega | (simp only [szA, szS, szD, World.heap_drewN] at * <;> omega)) _) (hb.mono (by first | omega | (simp only [szA, szS, szD, World.heap_drewN] at * <;> omega))) : Below w.heap.size w w1)
  have Z1 := hb.size
  have N1 : w.heap.size + 2 ≤ w1.heap.size := (by first | exact Z1 | (simp only [szA, szS, szD] at Z1; omega))
  clear Z1
  have Xp_1 : Hid (w1.heap[w.heap.size]? = some (.cells #[.int .i64 o.state, .int .i64 o.owner, .int .i64 o.value, .slice aP3 o.waits.length pP3] 25 (0, 0))) := below_at hb (heap_up (heap_at' (n := w.heap.size) (by first | omega | (simp only [szA, szS, szD, World.heap_drewN] at * <;> omega))))
  have Xres_1 : Hid (w1.heap[w.heap.size + 1]? = some (.cells #[.int .i64 0, .int .i64 0, .int .i64 0, .slice none 0 0] 25 (0, 0))) := below_at hb (heap_at' (n := w.heap.size + 1) (by first | omega | (simp only [szA, szS, szD, World.heap_drewN] at * <;> omega)))
  clear hb
  obtain ⟨cp1_0, cp1_1, cp1_2, cp1_3, fp1_0, fp1_1, fp1_2, fp1_3⟩ := box4 Xp_1.out; have lp1 := heap_lt Xp_1.out
  obtain ⟨cres1_0, cres1_1, cres1_2, cres1_3, fres1_0, fres1_1, fres1_2, fres1_3⟩ := box4 Xres_1.out; have lres1 := heap_lt Xres_1.out
  have S1 : w.heap.size ≤ w1.heap.size := (by omega)
  cases hv : onceB o
  · have HV := Lib.hid hv; clear hv
    obtain ⟨rfl, rfl⟩ := fail_no HR.out (by simp [runsB, HV.out])
    go_wp2_with (fail)
    refine bodyPost_ret (v := .tuple #[.agg #[.int .i64 0, .int .i64 0, .int .i64 0, .slice none 0 0], .bool false]) (by simp [results, Try.results30, go_sem, cres1_0, cres1_1, cres1_2, cres1_3, lres1]) rfl ⟨_, rfl, OnceOwn.nils, (below_setAt (below_setAt (below_setAt (below_setAt B1.out (w.heap.size + 1) 0 (by first | omega | (simp only [szA, szS, szD, World.heap_drewN] at * <;> omega)) (.int .i64 0)) (w.heap.size + 1) 1 (by first | omega | (simp only [szA, szS, szD, World.heap_drewN] at * <;> omega)) (.int .i64 0)) (w.heap.size + 1) 2 (by first | omega | (simp only [szA, szS, szD, World.heap_drewN] at * <;> omega)) (.int .i64 0)) (w.heap.size + 1) 3 (by first | omega | (simp only [szA, szS, szD, World.heap_drewN] at * <;> omega)) (.slice none 0 0))⟩
  · have HV := Lib.hid hv; have hl := onceB_len hv; clear hv
    by_cases hs : o.state = 1
    · have s1 : (o.state != 1) = false := by simpa using hs
      have HS := Lib.hid hs; clear hs
      by_cases ho : o.owner = t
      · have s2 : (o.owner != t) = false := by simpa using ho
        have HT := Lib.hid (show runsB o t = true by simp [runsB, HV.out, HS.out, ho])
        clear ho
        by_cases hq : 0 < o.waits.length
        · have d1 := len_ne hq
          obtain ⟨y, hy⟩ := get_ex hq
          obtain ⟨e1, rfl⟩ := fail_next HR.out HT.out hy
          obtain ⟨ys, hys⟩ : ∃ ys, o.waits.drop 1 = ys := ⟨_, rfl⟩
          rw [hys] at e1
          subst e1
          have hyl : o.waits.length - 1 = ys.length := by rw [← hys]; simp
          have hyn : ys.length ≤ 6 := by omega
          obtain ⟨b0, off, hab, hblt, hc⟩ := IRow.at1 HI.out hq
          subst hab
          have c00 := hc 0 y hy
          rw [Nat.add_zero] at c00
          have HT1 := Row.rest HI.out (i := 1) (by omega)
          rw [hys, hyl, Nat.one_mul] at HT1
          obtain ⟨A, hA⟩ : ∃ A : Addr, (if pP3 = 1 then (some (⟨b0, off, none⟩ : Addr)) else some ⟨b0, off + 1, none⟩) = some A := by split <;> exact ⟨_, rfl⟩
          rw [hA] at HT1
          have HYL := Lib.hid hyl; have HT2 := Lib.hid HT1; clear hc hy hys HT1
          have hcap : o.waits.length ≤ pP3 := by obtain ⟨x1, y1, e, l1, m1, _⟩ := IRow.look HI.out; injection e with _ _ e3; omega
          have b1 : (1 : Int) ≤ (o.waits.length : Int) := by omega
          have b2 : 1 ≤ o.waits.length := by omega
          have b3 : (1 : Int) ≤ (pP3 : Int) := by omega
          have b4 : 1 ≤ pP3 := by omega
          have ne1 : w.heap.size + 1 ≠ b0 := by omega
          have ne2 : b0 ≠ w.heap.size + 1 := by omega
          have b5 : (o.waits.length : Int) ≤ (pP3 : Int) := by omega
          have cE := (B1.out.cell (p := ⟨b0, off, none⟩) hblt).trans c00
          go_wp2_with (fail)
          go_region_held3 (fun w' => w'.cell? ⟨w.heap.size, 3, none⟩ = some (.slice (some ⟨b0, off, none⟩) o.waits.length pP3) ∧ w'.cell? ⟨b0, off, none⟩ = some (.int .i64 y)) (go_keep)
            ((go_at_call 57; refine (cloneInts_calls _ ys _ (by exact (Row.below HT2.out B1.out.drew)) (by omega)).mono ?_; rintro e w2 ⟨vy, rfl, ho_y, hb⟩; have B2 := Lib.hid (Below.trans B1.out.drew (hb.mono (by first | omega | (simp only [szA, szS, szD, World.heap_drewN] at * <;> omega))) : Below w.heap.size w w2); have Z2 := hb.size; have N2 : w1.heap.size ≤ w2.heap.size := (by first | exact Z2 | (simp only [szA, szS, szD] at Z2; omega)); clear Z2; have Xp_2 := Lib.hid (below_at hb (heap_drew Xp_1.out)); have Xres_2 := Lib.hid (below_at hb (heap_drew Xres_1.out)); have Oy_2 := Lib.hid (Own.mono (base' := w.heap.size) ho_y.own (by first | omega | (simp only [szA, szS, szD, World.heap_drewN] at * <;> omega))); obtain ⟨ay, py, rfl, hx_y⟩ := ho_y; clear hx_y; clear hb; obtain ⟨cp2_0, cp2_1, cp2_2, cp2_3, fp2_0, fp2_1, fp2_2, fp2_3⟩ := box4 Xp_2.out; have lp2 := heap_lt Xp_2.out; obtain ⟨cres2_0, cres2_1, cres2_2, cres2_3, fres2_0, fres2_1, fres2_2, fres2_3⟩ := box4 Xres_2.out; have lres2 := heap_lt Xres_2.out; have S2 : w.heap.size ≤ w2.heap.size := (by omega); have cF := (B2.out.cell (p := ⟨b0, off, none⟩) hblt).trans c00))
          clear cp1_0 cp1_1 cp1_2 cp1_3 fp1_0 fp1_1 fp1_2 fp1_3 cres1_0 cres1_1 cres1_2 cres1_3 fres1_0 fres1_1 fres1_2 fres1_3
          go_wp2_with (fail)
          refine bodyPost_ret (v := .tuple #[.agg #[.int .i64 1, .int .i64 y, .int .i64 0, .slice ay ys.length py], .bool true]) (by simp [results, Try.results30, go_sem, cres2_0, cres2_1, cres2_2, cres2_3, lres2]) rfl ⟨_, rfl, OnceOwn.of (((((Oy_2.out.setB (w.heap.size + 1) 0 Xres_2.out (by decide) (.int .i64 1)).setB (w.heap.size + 1) 1 (set_at (a := ⟨w.heap.size + 1, 0, none⟩) Xres_2.out rfl rfl (.int .i64 1)) (by decide) (.int .i64 y)).setB (w.heap.size + 1) 2 (set_at (a := ⟨w.heap.size + 1, 1, none⟩) (set_at (a := ⟨w.heap.size + 1, 0, none⟩) Xres_2.out rfl rfl (.int .i64 1)) rfl rfl (.int .i64 y)) (by decide) (.int .i64 0)).setB (w.heap.size + 1) 3 (set_at (a := ⟨w.heap.size + 1, 2, none⟩) (set_at (a := ⟨w.heap.size + 1, 1, none⟩) (set_at (a := ⟨w.heap.size + 1, 0, none⟩) Xres_2.out rfl rfl (.int .i64 1)) rfl rfl (.int .i64 y)) rfl rfl (.int .i64 0)) (by decide) (.slice ay ys.length py)).mono (by first | omega | (simp only [szA, szS, szD, World.heap_drewN] at * <;> omega))) (Nat.le_refl _), (below_setAt (below_setAt (below_setAt (below_setAt B2.out (w.heap.size + 1) 0 (by first | omega | (simp only [szA, szS, szD, World.heap_drewN] at * <;> omega)) (.int .i64 1)) (w.heap.size + 1) 1 (by first | omega | (simp only [szA, szS, szD, World.heap_drewN] at * <;> omega)) (.int .i64 y)) (w.heap.size + 1) 2 (by first | omega | (simp only [szA, szS, szD, World.heap_drewN] at * <;> omega)) (.int .i64 0)) (w.heap.size + 1) 3 (by first | omega | (simp only [szA, szS, szD, World.heap_drewN] at * <;> omega)) (.slice ay ys.length py))⟩
        · have d1 := len_eq hq
          obtain ⟨rfl, rfl⟩ := fail_nil HR.out HT.out hq
          go_wp2_with (fail)
          refine bodyPost_ret (v := .tuple #[.agg #[.int .i64 0, .int .i64 0, .int .i64 0, .slice none 0 0], .bool true]) (by simp [results, Try.results30, go_sem, cres1_0, cres1_1, cres1_2, cres1_3, lres1]) rfl ⟨_, rfl, OnceOwn.nils, (below_setAt (below_setAt (below_setAt (below_setAt B1.out (w.heap.size + 1) 0 (by first | omega | (simp only [szA, szS, szD, World.heap_drewN] at * <;> omega)) (.int .i64 0)) (w.heap.size + 1) 1 (by first | omega | (simp only [szA, szS, szD, World.heap_drewN] at * <;> omega)) (.int .i64 0)) (w.heap.size + 1) 2 (by first | omega | (simp only [szA, szS, szD, World.heap_drewN] at * <;> omega)) (.int .i64 0)) (w.heap.size + 1) 3 (by first | omega | (simp only [szA, szS, szD, World.heap_drewN] at * <;> omega)) (.slice none 0 0))⟩
      · have s2 : (o.owner != t) = true := by simpa using ho
        have HO := Lib.hid (beq_eq_false_iff_ne.2 ho); clear ho
        obtain ⟨rfl, rfl⟩ := fail_no HR.out (by simp [runsB, HO.out])
        go_wp2_with (fail)
        refine bodyPost_ret (v := .tuple #[.agg #[.int .i64 0, .int .i64 0, .int .i64 0, .slice none 0 0], .bool false]) (by simp [results, Try.results30, go_sem, cres1_0, cres1_1, cres1_2, cres1_3, lres1]) rfl ⟨_, rfl, OnceOwn.nils, (below_setAt (below_setAt (below_setAt (below_setAt B1.out (w.heap.size + 1) 0 (by first | omega | (simp only [szA, szS, szD, World.heap_drewN] at * <;> omega)) (.int .i64 0)) (w.heap.size + 1) 1 (by first | omega | (simp only [szA, szS, szD, World.heap_drewN] at * <;> omega)) (.int .i64 0)) (w.heap.size + 1) 2 (by first | omega | (simp only [szA, szS, szD, World.heap_drewN] at * <;> omega)) (.int .i64 0)) (w.heap.size + 1) 3 (by first | omega | (simp only [szA, szS, szD, World.heap_drewN] at * <;> omega)) (.slice none 0 0))⟩
    · have s1 : (o.state != 1) = true := by simpa using hs
      have HS := Lib.hid (beq_eq_false_iff_ne.2 hs); clear hs
      obtain ⟨rfl, rfl⟩ := fail_no HR.out (by simp [runsB, HS.out])
      go_wp2_with (fail)
      refine bodyPost_ret (v := .tuple #[.agg #[.int .i64 0, .int .i64 0, .int .i64 0, .slice none 0 0], .bool false]) (by simp [results, Try.results30, go_sem, cres1_0, cres1_1, cres1_2, cres1_3, lres1]) rfl ⟨_, rfl, OnceOwn.nils, (below_setAt (below_setAt (below_setAt (below_setAt B1.out (w.heap.size + 1) 0 (by first | omega | (simp only [szA, szS, szD, World.heap_drewN] at * <;> omega)) (.int .i64 0)) (w.heap.size + 1) 1 (by first | omega | (simp only [szA, szS, szD, World.heap_drewN] at * <;> omega)) (.int .i64 0)) (w.heap.size + 1) 2 (by first | omega | (simp only [szA, szS, szD, World.heap_drewN] at * <;> omega)) (.int .i64 0)) (w.heap.size + 1) 3 (by first | omega | (simp only [szA, szS, szD, World.heap_drewN] at * <;> omega)) (.slice none 0 0))⟩
set_option maxHeartbeats 3200000 in
theorem sFailOnceO (v : Value) (o : OnceD) (t : Int) (r : OnceD) (b1 : Bool) (w : World) (h : OnceRow w v o) (hr : failD o t = (r, b1)) :
    Calls Try.prog 31 #[v, .int .i64 t] w fun e w' => ∃ v', e = .returned (.tuple #[v', .bool b1]) ∧ OnceOwn w.heap.size w'.heap.size w' v' r ∧ Below w.heap.size w w' := by
  have HP := Lib.hid h
  obtain ⟨aP3, pP3, rfl, hq⟩ := h
  have HI := Lib.hid hq; clear hq
  have HR := Lib.hid hr; clear hr
  go_enter Try.func31, Try.ntmps31
  go_wp2_with (fail)
  refine (l2Runs_calls _ o t _ (OnceRow.below HP.out (Below.alloc (Below.alloc (Below.refl _ _) (by first | omega | (simp only [szA, szS, szD, World.heap_drewN] at * <;> omega)) _) (by first | omega | (simp only [szA, szS, szD, World.heap_drewN] at * <;> omega)) _))).mono ?_
  rintro e w1 ⟨rfl, hb⟩
  have B1 := Lib.hid (Below.trans (Below.alloc (Below.alloc (Below.refl _ _) (by first | omega | (simp only [szA, szS, szD, World.heap_drewN] at * <;> omega)) _) (by first | omega | (simp only [szA, szS, szD, World.heap_drewN] at * <;> omega)) _) (hb.mono (by first | omega | (simp only [szA, szS, szD, World.heap_drewN] at * <;> omega))) : Below w.heap.size w w1)
  have Z1 := hb.size
  have N1 : w.heap.size + 2 ≤ w1.heap.size := (by first | exact Z1 | (simp only [szA, szS, szD] at Z1; omega))
  clear Z1
  have Xp_1 : Hid (w1.heap[w.heap.size]? = some (.cells #[.int .i64 o.state, .int .i64 o.owner, .int .i64 o.value, .slice aP3 o.waits.length pP3] 25 (0, 0))) := below_at hb (heap_up (heap_at' (n := w.heap.size) (by first | omega | (simp only [szA, szS, szD, World.heap_drewN] at * <;> omega))))
  have Xres_1 : Hid (w1.heap[w.heap.size + 1]? = some (.cells #[.int .i64 0, .int .i64 0, .int .i64 0, .slice none 0 0] 25 (0, 0))) := below_at hb (heap_at' (n := w.heap.size + 1) (by first | omega | (simp only [szA, szS, szD, World.heap_drewN] at * <;> omega)))
  clear hb
  obtain ⟨cp1_0, cp1_1, cp1_2, cp1_3, fp1_0, fp1_1, fp1_2, fp1_3⟩ := box4 Xp_1.out; have lp1 := heap_lt Xp_1.out
  obtain ⟨cres1_0, cres1_1, cres1_2, cres1_3, fres1_0, fres1_1, fres1_2, fres1_3⟩ := box4 Xres_1.out; have lres1 := heap_lt Xres_1.out
  have S1 : w.heap.size ≤ w1.heap.size := (by omega)
  cases hv : runsB o t
  · have HV := Lib.hid hv; clear hv
    obtain ⟨rfl, rfl⟩ := fail_no HR.out HV.out
    go_wp2_with (fail)
    refine bodyPost_ret (v := .tuple #[.agg #[.int .i64 0, .int .i64 0, .int .i64 0, .slice none 0 0], .bool false]) (by simp [results, Try.results31, go_sem, cres1_0, cres1_1, cres1_2, cres1_3, lres1]) rfl ⟨_, rfl, OnceOwn.nils, (below_setAt (below_setAt (below_setAt (below_setAt B1.out (w.heap.size + 1) 0 (by first | omega | (simp only [szA, szS, szD, World.heap_drewN] at * <;> omega)) (.int .i64 0)) (w.heap.size + 1) 1 (by first | omega | (simp only [szA, szS, szD, World.heap_drewN] at * <;> omega)) (.int .i64 0)) (w.heap.size + 1) 2 (by first | omega | (simp only [szA, szS, szD, World.heap_drewN] at * <;> omega)) (.int .i64 0)) (w.heap.size + 1) 3 (by first | omega | (simp only [szA, szS, szD, World.heap_drewN] at * <;> omega)) (.slice none 0 0))⟩
  · have HT := Lib.hid hv; have hl := runsB_len hv; clear hv
    by_cases hq : 0 < o.waits.length
    · have d1 := len_ne hq
      obtain ⟨y, hy⟩ := get_ex hq
      obtain ⟨e1, rfl⟩ := fail_next HR.out HT.out hy
      obtain ⟨ys, hys⟩ : ∃ ys, o.waits.drop 1 = ys := ⟨_, rfl⟩
      rw [hys] at e1
      subst e1
      have hyl : o.waits.length - 1 = ys.length := by rw [← hys]; simp
      have hyn : ys.length ≤ 6 := by omega
      obtain ⟨b0, off, hab, hblt, hc⟩ := IRow.at1 HI.out hq
      subst hab
      have c00 := hc 0 y hy
      rw [Nat.add_zero] at c00
      have HT1 := Row.rest HI.out (i := 1) (by omega)
      rw [hys, hyl, Nat.one_mul] at HT1
      obtain ⟨A, hA⟩ : ∃ A : Addr, (if pP3 = 1 then (some (⟨b0, off, none⟩ : Addr)) else some ⟨b0, off + 1, none⟩) = some A := by split <;> exact ⟨_, rfl⟩
      rw [hA] at HT1
      have HYL := Lib.hid hyl; have HT2 := Lib.hid HT1; clear hc hy hys HT1
      have hcap : o.waits.length ≤ pP3 := by obtain ⟨x1, y1, e, l1, m1, _⟩ := IRow.look HI.out; injection e with _ _ e3; omega
      have b1 : (1 : Int) ≤ (o.waits.length : Int) := by omega
      have b2 : 1 ≤ o.waits.length := by omega
      have b3 : (1 : Int) ≤ (pP3 : Int) := by omega
      have b4 : 1 ≤ pP3 := by omega
      have ne1 : w.heap.size + 1 ≠ b0 := by omega
      have ne2 : b0 ≠ w.heap.size + 1 := by omega
      have b5 : (o.waits.length : Int) ≤ (pP3 : Int) := by omega
      have cE := (B1.out.cell (p := ⟨b0, off, none⟩) hblt).trans c00
      go_wp2_with (fail)
      go_region_held3 (fun w' => w'.cell? ⟨w.heap.size, 3, none⟩ = some (.slice (some ⟨b0, off, none⟩) o.waits.length pP3) ∧ w'.cell? ⟨b0, off, none⟩ = some (.int .i64 y)) (go_keep)
        ((refine step_clone _ encI_len encI_one (by rfl) _ _ 23 (by rfl) 3 _ 8 Try.underlying23 info_int rfl (by decide) (w1.heap.size) _ (by rfl) (by exact heap_at w1 _) (by omega) (.slice (some A) ys.length (pP3 - 1)) ys (by rfl) (by exact (Row.below HT2.out (Below.alloc B1.out (by first | omega | (simp only [szA, szS, szD, World.heap_drewN] at * <;> omega)) _).drew)) (by decide) (by omega) ?_; intro ay py w2 ho_y hg; have hb := clone_below hg; clear hg; have B2 := Lib.hid (Below.trans B1.out (hb.mono (by first | omega | (simp only [szA, szS, szD, World.heap_drewN] at * <;> omega))) : Below w.heap.size w w2); have Z2 := hb.size; have N2 : w1.heap.size ≤ w2.heap.size := (by first | exact Z2 | (simp only [szA, szS, szD] at Z2; omega)); clear Z2; have Xp_2 := Lib.hid (below_at hb Xp_1.out); have Xres_2 := Lib.hid (below_at hb Xres_1.out); have Oy_2 := Lib.hid (Own.mono (base' := w.heap.size) ho_y (by first | omega | (simp only [szA, szS, szD, World.heap_drewN] at * <;> omega))); clear ho_y; clear hb; obtain ⟨cp2_0, cp2_1, cp2_2, cp2_3, fp2_0, fp2_1, fp2_2, fp2_3⟩ := box4 Xp_2.out; have lp2 := heap_lt Xp_2.out; obtain ⟨cres2_0, cres2_1, cres2_2, cres2_3, fres2_0, fres2_1, fres2_2, fres2_3⟩ := box4 Xres_2.out; have lres2 := heap_lt Xres_2.out; have S2 : w.heap.size ≤ w2.heap.size := (by omega); have cF := (B2.out.cell (p := ⟨b0, off, none⟩) hblt).trans c00))
      clear cp1_0 cp1_1 cp1_2 cp1_3 fp1_0 fp1_1 fp1_2 fp1_3 cres1_0 cres1_1 cres1_2 cres1_3 fres1_0 fres1_1 fres1_2 fres1_3
      go_wp2_with (fail)
      refine bodyPost_ret (v := .tuple #[.agg #[.int .i64 1, .int .i64 y, .int .i64 0, .slice ay ys.length py], .bool true]) (by simp [results, Try.results31, go_sem, cres2_0, cres2_1, cres2_2, cres2_3, lres2]) rfl ⟨_, rfl, OnceOwn.of (((((Oy_2.out.setB (w.heap.size + 1) 0 Xres_2.out (by decide) (.int .i64 1)).setB (w.heap.size + 1) 1 (set_at (a := ⟨w.heap.size + 1, 0, none⟩) Xres_2.out rfl rfl (.int .i64 1)) (by decide) (.int .i64 y)).setB (w.heap.size + 1) 2 (set_at (a := ⟨w.heap.size + 1, 1, none⟩) (set_at (a := ⟨w.heap.size + 1, 0, none⟩) Xres_2.out rfl rfl (.int .i64 1)) rfl rfl (.int .i64 y)) (by decide) (.int .i64 0)).setB (w.heap.size + 1) 3 (set_at (a := ⟨w.heap.size + 1, 2, none⟩) (set_at (a := ⟨w.heap.size + 1, 1, none⟩) (set_at (a := ⟨w.heap.size + 1, 0, none⟩) Xres_2.out rfl rfl (.int .i64 1)) rfl rfl (.int .i64 y)) rfl rfl (.int .i64 0)) (by decide) (.slice ay ys.length py)).mono (by first | omega | (simp only [szA, szS, szD, World.heap_drewN] at * <;> omega))) (Nat.le_refl _), (below_setAt (below_setAt (below_setAt (below_setAt B2.out (w.heap.size + 1) 0 (by first | omega | (simp only [szA, szS, szD, World.heap_drewN] at * <;> omega)) (.int .i64 1)) (w.heap.size + 1) 1 (by first | omega | (simp only [szA, szS, szD, World.heap_drewN] at * <;> omega)) (.int .i64 y)) (w.heap.size + 1) 2 (by first | omega | (simp only [szA, szS, szD, World.heap_drewN] at * <;> omega)) (.int .i64 0)) (w.heap.size + 1) 3 (by first | omega | (simp only [szA, szS, szD, World.heap_drewN] at * <;> omega)) (.slice ay ys.length py))⟩
    · have d1 := len_eq hq
      obtain ⟨rfl, rfl⟩ := fail_nil HR.out HT.out hq
      go_wp2_with (fail)
      refine bodyPost_ret (v := .tuple #[.agg #[.int .i64 0, .int .i64 0, .int .i64 0, .slice none 0 0], .bool true]) (by simp [results, Try.results31, go_sem, cres1_0, cres1_1, cres1_2, cres1_3, lres1]) rfl ⟨_, rfl, OnceOwn.nils, (below_setAt (below_setAt (below_setAt (below_setAt B1.out (w.heap.size + 1) 0 (by first | omega | (simp only [szA, szS, szD, World.heap_drewN] at * <;> omega)) (.int .i64 0)) (w.heap.size + 1) 1 (by first | omega | (simp only [szA, szS, szD, World.heap_drewN] at * <;> omega)) (.int .i64 0)) (w.heap.size + 1) 2 (by first | omega | (simp only [szA, szS, szD, World.heap_drewN] at * <;> omega)) (.int .i64 0)) (w.heap.size + 1) 3 (by first | omega | (simp only [szA, szS, szD, World.heap_drewN] at * <;> omega)) (.slice none 0 0))⟩
end Go.Proofs.Ytmmkbiljjhigfaa
