/- FinishOnce, FailOnce of both: what they return (made by gen_finish.py). -/
import Derived.Test.YtmmkbiljjhigfaaDrOnce
import Derived.Test.YtmmkbiljjhigfaaOnceEnter
namespace Go.Proofs.Ytmmkbiljjhigfaa
open Go.RowKit
set_option linter.unusedSimpArgs false
set_option linter.unusedVariables false
theorem LOwn.nil' {lo hi : Nat} {w : World} : LOwn lo hi w (.slice none 0 0) [] := ⟨none, 0, rfl, Own.nil _ _ _ _ _, fun g e => by cases e⟩
def runsB (o : OnceD) (t : Int) : Bool := onceB o && (o.state == 1) && (o.owner == t)
def finish (o : OnceD) (t x : Int) : OnceD × List Int × Bool := if (runsB o t && valB x) = true then (⟨2, t, x, []⟩, o.waits, true) else (OnceD.zero, [], false)
def failD (o : OnceD) (t : Int) : OnceD × Bool := if runsB o t = true then (match o.waits with | [] => (OnceD.zero, true) | y :: r => (⟨1, y, 0, r⟩, true)) else (OnceD.zero, false)
theorem runsB_valid {o : OnceD} {t : Int} (h : runsB o t = true) : onceB o = true ∧ o.state = 1 ∧ o.owner = t := by
  simp only [runsB, Bool.and_eq_true, beq_iff_eq] at h; exact ⟨h.1.1, h.1.2, h.2⟩
theorem runsB_len {o : OnceD} {t : Int} (h : runsB o t = true) : o.waits.length ≤ 6 := onceB_len (runsB_valid h).1
theorem finish_no {o r : OnceD} {t x : Int} {y : List Int} {b : Bool} (h : finish o t x = (r, y, b)) (hn : (runsB o t && valB x) = false) : r = OnceD.zero ∧ y = [] ∧ b = false := by
  unfold finish at h; rw [if_neg (by rw [hn]; decide)] at h; injection h with h1 h; injection h with h2 h3; exact ⟨h1.symm, h2.symm, h3.symm⟩
theorem finish_yes {o r : OnceD} {t x : Int} {y : List Int} {b : Bool} (h : finish o t x = (r, y, b)) (hn : (runsB o t && valB x) = true) : r = ⟨2, t, x, []⟩ ∧ y = o.waits ∧ b = true := by
  unfold finish at h; rw [if_pos hn] at h; injection h with h1 h; injection h with h2 h3; exact ⟨h1.symm, h2.symm, h3.symm⟩
set_option maxHeartbeats 3200000 in
theorem FinishOnceO (v : Value) (o : OnceD) (t x : Int) (r : OnceD) (y : List Int) (b1 : Bool) (w : World) (h : OnceRow w v o) (hr : finish o t x = (r, y, b1)) :
    Calls Try.prog 26 #[v, .int .i64 t, .int .i64 x] w fun e w' => ∃ v' u', e = .returned (.tuple #[v', u', .bool b1]) ∧ OnceOwn w.heap.size w'.heap.size w' v' r ∧ LOwn w.heap.size w'.heap.size w' u' y ∧ Below w.heap.size w w' := by
  have HP := Lib.hid h
  obtain ⟨aP3, pP3, rfl, hq⟩ := h
  have HI := Lib.hid hq; clear hq
  have HR := Lib.hid hr; clear hr
  go_enter Try.func26, Try.ntmps26
  go_wp2_with (fail)
  refine (OnceValid_calls _ o _ (OnceRow.below HP.out (Below.alloc (Below.alloc (Below.refl _ _) (by first | omega | (simp only [szA, szS, szD, World.heap_drewN] at * <;> omega)) _) (by first | omega | (simp only [szA, szS, szD, World.heap_drewN] at * <;> omega)) _))).mono ?_
  rintro e w1 ⟨rfl, hb⟩
  have B1 := Lib.hid (Below.trans (Below.alloc (Below.alloc (Below.refl _ _) (by first | omega | (simp only [szA, szS, szD, World.heap_drewN] at * <;> omega)) _) (by first | omega | (simp only [szA, szS, szD, World.heap_drewN] at * <;> omega)) _) (hb.mono (by first | omega | (simp only [szA, szS, szD, World.heap_drewN] at * <;> omega))) : Below w.heap.size w w1)
  have Z1 := hb.size
  have N1 : w.heap.size + 2 ≤ w1.heap.size := (by first | exact Z1 | (simp only [szA, szS, szD] at Z1; omega))
  clear Z1
  have Xp_1 : Hid (w1.heap[w.heap.size]? = some (.cells #[.int .i64 o.state, .int .i64 o.owner, .int .i64 o.value, .slice aP3 o.waits.length pP3] 25 (0, 0))) := below_at hb (heap_up (heap_at' (n := w.heap.size) (by first | omega | (simp only [szA, szS, szD, World.heap_drewN] at * <;> omega))))
  have Xres_1 : Hid (w1.heap[w.heap.size + 1]? = some (.cells #[.int .i64 0, .int .i64 0, .int .i64 0, .slice none 0 0] 25 (0, 0))) := below_at hb (heap_at' (n := w.heap.size + 1) (by first | omega | (simp only [szA, szS, szD, World.heap_drewN] at * <;> omega)))
  clear hb
  obtain ⟨cp1_0, cp1_1, cp1_2, cp1_3, fp1_0, fp1_1, fp1_2, fp1_3⟩ := box4 Xp_1.out; have lp1 := heap_lt Xp_1.out
  obtain ⟨cres1_0, cres1_1, cres1_2, cres1_3, fres1_0, fres1_1, fres1_2, fres1_3⟩ := box4 Xres_1.out; have lres1 := heap_lt Xres_1.out
  have S1 : w.heap.size ≤ w1.heap.size := by omega
  cases hv : onceB o
  · have HV := Lib.hid hv; clear hv
    obtain ⟨rfl, rfl, rfl⟩ := finish_no HR.out (by simp [runsB, HV.out])
    go_wp2_with (fail)
    refine bodyPost_ret (v := .tuple #[.agg #[.int .i64 0, .int .i64 0, .int .i64 0, .slice none 0 0], .slice none 0 0, .bool false]) (by simp [results, Try.results26, go_sem, cres1_0, cres1_1, cres1_2, cres1_3, lres1]) rfl ⟨_, _, rfl, OnceOwn.nils, LOwn.nil', (below_setAt (below_setAt (below_setAt (below_setAt B1.out (w.heap.size + 1) 0 (by first | omega | (simp only [szA, szS, szD, World.heap_drewN] at * <;> omega)) (.int .i64 0)) (w.heap.size + 1) 1 (by first | omega | (simp only [szA, szS, szD, World.heap_drewN] at * <;> omega)) (.int .i64 0)) (w.heap.size + 1) 2 (by first | omega | (simp only [szA, szS, szD, World.heap_drewN] at * <;> omega)) (.int .i64 0)) (w.heap.size + 1) 3 (by first | omega | (simp only [szA, szS, szD, World.heap_drewN] at * <;> omega)) (.slice none 0 0))⟩
  · have HV := Lib.hid hv; have hl := onceB_len hv; clear hv
    by_cases hs : o.state = 1
    · have s1 : (o.state != 1) = false := by simpa using hs
      have HS := Lib.hid hs; clear hs
      by_cases ho : o.owner = t
      · have s2 : (o.owner != t) = false := by simpa using ho
        have HO := Lib.hid ho; clear ho
        go_wp2_with (fail)
        refine (isValue_calls x _).mono ?_
        rintro e w' ⟨rfl, rfl⟩
        cases hx : valB x
        · have HX := Lib.hid hx; clear hx
          obtain ⟨rfl, rfl, rfl⟩ := finish_no HR.out (by simp [HX.out])
          go_wp2_with (fail)
          refine bodyPost_ret (v := .tuple #[.agg #[.int .i64 0, .int .i64 0, .int .i64 0, .slice none 0 0], .slice none 0 0, .bool false]) (by simp [results, Try.results26, go_sem, cres1_0, cres1_1, cres1_2, cres1_3, lres1]) rfl ⟨_, _, rfl, OnceOwn.nils, LOwn.nil', (below_setAt (below_setAt (below_setAt (below_setAt B1.out (w.heap.size + 1) 0 (by first | omega | (simp only [szA, szS, szD, World.heap_drewN] at * <;> omega)) (.int .i64 0)) (w.heap.size + 1) 1 (by first | omega | (simp only [szA, szS, szD, World.heap_drewN] at * <;> omega)) (.int .i64 0)) (w.heap.size + 1) 2 (by first | omega | (simp only [szA, szS, szD, World.heap_drewN] at * <;> omega)) (.int .i64 0)) (w.heap.size + 1) 3 (by first | omega | (simp only [szA, szS, szD, World.heap_drewN] at * <;> omega)) (.slice none 0 0))⟩
        · have HX := Lib.hid hx; clear hx
          obtain ⟨rfl, rfl, rfl⟩ := finish_yes HR.out (by simp [runsB, HV.out, HS.out, HO.out, HX.out])
          go_wp2_with (fail)
          refine (cloneInts_calls _ o.waits _ (Row.below HI.out B1.out) (by omega)).mono ?_
          rintro e w2 ⟨vy, rfl, ho_y, hb⟩
          have B2 := Lib.hid (Below.trans B1.out (hb.mono (by first | omega | (simp only [szA, szS, szD, World.heap_drewN] at * <;> omega))) : Below w.heap.size w w2)
          have Z2 := hb.size
          have N2 : w1.heap.size ≤ w2.heap.size := (by first | exact Z2 | (simp only [szA, szS, szD] at Z2; omega))
          clear Z2
          have Xp_2 := Lib.hid (below_at hb Xp_1.out)
          have Xres_2 := Lib.hid (below_at hb Xres_1.out)
          have Oy_2 := Lib.hid (Own.mono (base' := w.heap.size) ho_y.own (by first | omega | (simp only [szA, szS, szD, World.heap_drewN] at * <;> omega))); obtain ⟨ay, py, rfl, hx_y⟩ := ho_y; clear hx_y
          clear hb
          obtain ⟨cp2_0, cp2_1, cp2_2, cp2_3, fp2_0, fp2_1, fp2_2, fp2_3⟩ := box4 Xp_2.out; have lp2 := heap_lt Xp_2.out
          obtain ⟨cres2_0, cres2_1, cres2_2, cres2_3, fres2_0, fres2_1, fres2_2, fres2_3⟩ := box4 Xres_2.out; have lres2 := heap_lt Xres_2.out
          have S2 : w.heap.size ≤ w2.heap.size := by omega
          clear cp1_0 cp1_1 cp1_2 cp1_3 fp1_0 fp1_1 fp1_2 fp1_3 cres1_0 cres1_1 cres1_2 cres1_3 fres1_0 fres1_1 fres1_2 fres1_3
          go_wp2_with (fail)
          refine bodyPost_ret (v := .tuple #[.agg #[.int .i64 2, .int .i64 t, .int .i64 x, .slice none 0 0], .slice ay o.waits.length py, .bool true]) (by simp [results, Try.results26, go_sem, cres2_0, cres2_1, cres2_2, cres2_3, lres2]) rfl ⟨_, _, rfl, OnceOwn.nils, LOwn.of ((((Oy_2.out.setB (w.heap.size + 1) 0 Xres_2.out (by decide) (.int .i64 2)).setB (w.heap.size + 1) 1 (set_at (a := ⟨w.heap.size + 1, 0, none⟩) Xres_2.out rfl rfl (.int .i64 2)) (by decide) (.int .i64 t)).setB (w.heap.size + 1) 2 (set_at (a := ⟨w.heap.size + 1, 1, none⟩) (set_at (a := ⟨w.heap.size + 1, 0, none⟩) Xres_2.out rfl rfl (.int .i64 2)) rfl rfl (.int .i64 t)) (by decide) (.int .i64 x)).setB (w.heap.size + 1) 3 (set_at (a := ⟨w.heap.size + 1, 2, none⟩) (set_at (a := ⟨w.heap.size + 1, 1, none⟩) (set_at (a := ⟨w.heap.size + 1, 0, none⟩) Xres_2.out rfl rfl (.int .i64 2)) rfl rfl (.int .i64 t)) rfl rfl (.int .i64 x)) (by decide) (.slice none 0 0)) (Nat.le_refl _), (below_setAt (below_setAt (below_setAt (below_setAt B2.out (w.heap.size + 1) 0 (by first | omega | (simp only [szA, szS, szD, World.heap_drewN] at * <;> omega)) (.int .i64 2)) (w.heap.size + 1) 1 (by first | omega | (simp only [szA, szS, szD, World.heap_drewN] at * <;> omega)) (.int .i64 t)) (w.heap.size + 1) 2 (by first | omega | (simp only [szA, szS, szD, World.heap_drewN] at * <;> omega)) (.int .i64 x)) (w.heap.size + 1) 3 (by first | omega | (simp only [szA, szS, szD, World.heap_drewN] at * <;> omega)) (.slice none 0 0))⟩
      · have s2 : (o.owner != t) = true := by simpa using ho
        have HO := Lib.hid (beq_eq_false_iff_ne.2 ho); clear ho
        obtain ⟨rfl, rfl, rfl⟩ := finish_no HR.out (by simp [runsB, HO.out])
        go_wp2_with (fail)
        refine bodyPost_ret (v := .tuple #[.agg #[.int .i64 0, .int .i64 0, .int .i64 0, .slice none 0 0], .slice none 0 0, .bool false]) (by simp [results, Try.results26, go_sem, cres1_0, cres1_1, cres1_2, cres1_3, lres1]) rfl ⟨_, _, rfl, OnceOwn.nils, LOwn.nil', (below_setAt (below_setAt (below_setAt (below_setAt B1.out (w.heap.size + 1) 0 (by first | omega | (simp only [szA, szS, szD, World.heap_drewN] at * <;> omega)) (.int .i64 0)) (w.heap.size + 1) 1 (by first | omega | (simp only [szA, szS, szD, World.heap_drewN] at * <;> omega)) (.int .i64 0)) (w.heap.size + 1) 2 (by first | omega | (simp only [szA, szS, szD, World.heap_drewN] at * <;> omega)) (.int .i64 0)) (w.heap.size + 1) 3 (by first | omega | (simp only [szA, szS, szD, World.heap_drewN] at * <;> omega)) (.slice none 0 0))⟩
    · have s1 : (o.state != 1) = true := by simpa using hs
      have HS := Lib.hid (beq_eq_false_iff_ne.2 hs); clear hs
      obtain ⟨rfl, rfl, rfl⟩ := finish_no HR.out (by simp [runsB, HS.out])
      go_wp2_with (fail)
      refine bodyPost_ret (v := .tuple #[.agg #[.int .i64 0, .int .i64 0, .int .i64 0, .slice none 0 0], .slice none 0 0, .bool false]) (by simp [results, Try.results26, go_sem, cres1_0, cres1_1, cres1_2, cres1_3, lres1]) rfl ⟨_, _, rfl, OnceOwn.nils, LOwn.nil', (below_setAt (below_setAt (below_setAt (below_setAt B1.out (w.heap.size + 1) 0 (by first | omega | (simp only [szA, szS, szD, World.heap_drewN] at * <;> omega)) (.int .i64 0)) (w.heap.size + 1) 1 (by first | omega | (simp only [szA, szS, szD, World.heap_drewN] at * <;> omega)) (.int .i64 0)) (w.heap.size + 1) 2 (by first | omega | (simp only [szA, szS, szD, World.heap_drewN] at * <;> omega)) (.int .i64 0)) (w.heap.size + 1) 3 (by first | omega | (simp only [szA, szS, szD, World.heap_drewN] at * <;> omega)) (.slice none 0 0))⟩
set_option maxHeartbeats 3200000 in
theorem l2Runs_calls (v : Value) (o : OnceD) (t : Int) (w : World) (h : OnceRow w v o) :
    Calls Try.prog 69 #[v, .int .i64 t] w fun e w' => e = .returned (.bool (runsB o t)) ∧ Below w.heap.size w w' := by
  have HP := Lib.hid h
  obtain ⟨aP3, pP3, rfl, hq⟩ := h
  clear hq
  go_enter Try.func69, Try.ntmps69
  go_wp2_with (fail)
  refine (sOnceValid_calls _ o _ (OnceRow.below HP.out (Below.alloc (Below.refl _ _) (by first | omega | (simp only [szA, szS, szD, World.heap_drewN] at * <;> omega)) _))).mono ?_
  rintro e w1 ⟨rfl, hb⟩
  have B1 := Lib.hid (Below.trans (Below.alloc (Below.refl _ _) (by first | omega | (simp only [szA, szS, szD, World.heap_drewN] at * <;> omega)) _) (hb.mono (by first | omega | (simp only [szA, szS, szD, World.heap_drewN] at * <;> omega))) : Below w.heap.size w w1)
  have Z1 := hb.size
  have N1 : w.heap.size + 1 ≤ w1.heap.size := (by first | exact Z1 | (simp only [szA, szS, szD] at Z1; omega))
  clear Z1
  have Xp_1 : Hid (w1.heap[w.heap.size]? = some (.cells #[.int .i64 o.state, .int .i64 o.owner, .int .i64 o.value, .slice aP3 o.waits.length pP3] 25 (0, 0))) := below_at hb (heap_at' (n := w.heap.size) (by first | omega | (simp only [szA, szS, szD, World.heap_drewN] at * <;> omega)))
  clear hb
  obtain ⟨cp1_0, cp1_1, cp1_2, cp1_3, fp1_0, fp1_1, fp1_2, fp1_3⟩ := box4 Xp_1.out; have lp1 := heap_lt Xp_1.out
  have S1 : w.heap.size ≤ w1.heap.size := by omega
  cases hv : onceB o
  · have HV := Lib.hid hv; clear hv
    go_wp2
    go_ret
    exact ⟨ret_bool (by simp [runsB, HV.out]), B1.out⟩
  · have HV := Lib.hid hv; clear hv
    by_cases hs : o.state = 1
    · have s1 : (o.state == 1) = true := by simpa using hs
      have HS := Lib.hid hs; clear hs
      by_cases ho : o.owner = t
      · have s2 : (o.owner == t) = true := by simpa using ho
        have HO := Lib.hid ho; clear ho
        go_wp2
        go_ret
        exact ⟨ret_bool (by simp [runsB, HV.out, HS.out, HO.out]), B1.out⟩
      · have s2 : (o.owner == t) = false := by simpa using ho
        have HO := Lib.hid s2; clear ho
        go_wp2
        go_ret
        exact ⟨ret_bool (by simp [runsB, HV.out, HS.out, HO.out]), B1.out⟩
    · have s1 : (o.state == 1) = false := by simpa using hs
      have HS := Lib.hid s1; clear hs
      go_wp2
      go_ret
      exact ⟨ret_bool (by simp [runsB, HV.out, HS.out]), B1.out⟩
set_option maxHeartbeats 3200000 in
theorem sFinishOnceO (v : Value) (o : OnceD) (t x : Int) (r : OnceD) (y : List Int) (b1 : Bool) (w : World) (h : OnceRow w v o) (hr : finish o t x = (r, y, b1)) :
    Calls Try.prog 27 #[v, .int .i64 t, .int .i64 x] w fun e w' => ∃ v' u', e = .returned (.tuple #[v', u', .bool b1]) ∧ OnceOwn w.heap.size w'.heap.size w' v' r ∧ LOwn w.heap.size w'.heap.size w' u' y ∧ Below w.heap.size w w' := by
  have HP := Lib.hid h
  obtain ⟨aP3, pP3, rfl, hq⟩ := h
  have HI := Lib.hid hq; clear hq
  have HR := Lib.hid hr; clear hr
  go_enter Try.func27, Try.ntmps27
  go_wp2_with (fail)
  refine (l2Runs_calls _ o t _ (OnceRow.below HP.out (Below.alloc (Below.alloc (Below.refl _ _) (by first | omega | (simp only [szA, szS, szD, World.heap_drewN] at * <;> omega)) _) (by first | omega | (simp only [szA, szS, szD, World.heap_drewN] at * <;> omega)) _))).mono ?_
  rintro e w1 ⟨rfl, hb⟩
  have B1 := Lib.hid (Below.trans (Below.alloc (Below.alloc (Below.refl _ _) (by first | omega | (simp only [szA, szS, szD, World.heap_drewN] at * <;> omega)) _) (by first | omega | (simp only [szA, szS, szD, World.heap_drewN] at * <;> omega)) _) (hb.mono (by first | omega | (simp only [szA, szS, szD, World.heap_drewN] at * <;> omega))) : Below w.heap.size w w1)
  have Z1 := hb.size
  have N1 : w.heap.size + 2 ≤ w1.heap.size := (by first | exact Z1 | (simp only [szA, szS, szD] at Z1; omega))
  clear Z1
  have Xp_1 : Hid (w1.heap[w.heap.size]? = some (.cells #[.int .i64 o.state, .int .i64 o.owner, .int .i64 o.value, .slice aP3 o.waits.length pP3] 25 (0, 0))) := below_at hb (heap_up (heap_at' (n := w.heap.size) (by first | omega | (simp only [szA, szS, szD, World.heap_drewN] at * <;> omega))))
  have Xres_1 : Hid (w1.heap[w.heap.size + 1]? = some (.cells #[.int .i64 0, .int .i64 0, .int .i64 0, .slice none 0 0] 25 (0, 0))) := below_at hb (heap_at' (n := w.heap.size + 1) (by first | omega | (simp only [szA, szS, szD, World.heap_drewN] at * <;> omega)))
  clear hb
  obtain ⟨cp1_0, cp1_1, cp1_2, cp1_3, fp1_0, fp1_1, fp1_2, fp1_3⟩ := box4 Xp_1.out; have lp1 := heap_lt Xp_1.out
  obtain ⟨cres1_0, cres1_1, cres1_2, cres1_3, fres1_0, fres1_1, fres1_2, fres1_3⟩ := box4 Xres_1.out; have lres1 := heap_lt Xres_1.out
  have S1 : w.heap.size ≤ w1.heap.size := by omega
  cases hv : runsB o t
  · have HV := Lib.hid hv; clear hv
    obtain ⟨rfl, rfl, rfl⟩ := finish_no HR.out (by simp [HV.out])
    go_wp2_with (fail)
    refine bodyPost_ret (v := .tuple #[.agg #[.int .i64 0, .int .i64 0, .int .i64 0, .slice none 0 0], .slice (some ⟨w1.heap.size, 0, none⟩) 0 0, .bool false]) (by simp [results, Try.results27, go_sem, cres1_0, cres1_1, cres1_2, cres1_3, lres1]) rfl ⟨_, _, rfl, OnceOwn.nils, LOwn.of (Own.empty (heap_at' (n := w1.heap.size) (by first | omega | (simp only [szA, szS, szD, World.heap_drewN] at * <;> omega))) (by omega)) (Nat.le_refl _), (Below.alloc (below_setAt (below_setAt (below_setAt (below_setAt B1.out (w.heap.size + 1) 0 (by first | omega | (simp only [szA, szS, szD, World.heap_drewN] at * <;> omega)) (.int .i64 0)) (w.heap.size + 1) 1 (by first | omega | (simp only [szA, szS, szD, World.heap_drewN] at * <;> omega)) (.int .i64 0)) (w.heap.size + 1) 2 (by first | omega | (simp only [szA, szS, szD, World.heap_drewN] at * <;> omega)) (.int .i64 0)) (w.heap.size + 1) 3 (by first | omega | (simp only [szA, szS, szD, World.heap_drewN] at * <;> omega)) (.slice none 0 0)) (by first | omega | (simp only [szA, szS, szD, World.heap_drewN] at * <;> omega)) _)⟩
  · have HV := Lib.hid hv; have hl := runsB_len hv; clear hv
    go_wp2_with (fail)
    refine (l2Value_calls x _).mono ?_
    rintro e w' ⟨rfl, rfl⟩
    cases hx : valB x
    · have HX := Lib.hid hx; clear hx
      obtain ⟨rfl, rfl, rfl⟩ := finish_no HR.out (by simp [HX.out])
      go_wp2_with (fail)
      refine bodyPost_ret (v := .tuple #[.agg #[.int .i64 0, .int .i64 0, .int .i64 0, .slice none 0 0], .slice (some ⟨w1.heap.size, 0, none⟩) 0 0, .bool false]) (by simp [results, Try.results27, go_sem, cres1_0, cres1_1, cres1_2, cres1_3, lres1]) rfl ⟨_, _, rfl, OnceOwn.nils, LOwn.of (Own.empty (heap_at' (n := w1.heap.size) (by first | omega | (simp only [szA, szS, szD, World.heap_drewN] at * <;> omega))) (by omega)) (Nat.le_refl _), (Below.alloc (below_setAt (below_setAt (below_setAt (below_setAt B1.out (w.heap.size + 1) 0 (by first | omega | (simp only [szA, szS, szD, World.heap_drewN] at * <;> omega)) (.int .i64 0)) (w.heap.size + 1) 1 (by first | omega | (simp only [szA, szS, szD, World.heap_drewN] at * <;> omega)) (.int .i64 0)) (w.heap.size + 1) 2 (by first | omega | (simp only [szA, szS, szD, World.heap_drewN] at * <;> omega)) (.int .i64 0)) (w.heap.size + 1) 3 (by first | omega | (simp only [szA, szS, szD, World.heap_drewN] at * <;> omega)) (.slice none 0 0)) (by first | omega | (simp only [szA, szS, szD, World.heap_drewN] at * <;> omega)) _)⟩
    · have HX := Lib.hid hx; clear hx
      obtain ⟨rfl, rfl, rfl⟩ := finish_yes HR.out (by simp [HV.out, HX.out])
      go_wp2_with (at_builtin; refine wpList_cloneE _ encI_len encI_one rfl _ _ 23 rfl 3 _ 8 Try.underlying23 info_int rfl (by decide) (w1.heap.size) rfl (by first | omega | (simp only [szA, szS, szD, World.heap_drewN] at * <;> omega)) (.slice aP3 o.waits.length pP3) o.waits rfl (Row.below HI.out B1.out) (by decide) (by omega) ?_; intro ay py w2 ho_y hb; have B2 := Lib.hid (Below.trans B1.out (hb.mono (by first | omega | (simp only [szA, szS, szD, World.heap_drewN] at * <;> omega))) : Below w.heap.size w w2); have Z2 := hb.size; have N2 : w1.heap.size ≤ w2.heap.size := (by first | exact Z2 | (simp only [szA, szS, szD] at Z2; omega)); clear Z2; have Xp_2 := Lib.hid (below_at hb Xp_1.out); have Xres_2 := Lib.hid (below_at hb Xres_1.out); have Oy_2 := Lib.hid (Own.mono (base' := w.heap.size) ho_y (by first | omega | (simp only [szA, szS, szD, World.heap_drewN] at * <;> omega))); clear ho_y; clear hb; obtain ⟨cp2_0, cp2_1, cp2_2, cp2_3, fp2_0, fp2_1, fp2_2, fp2_3⟩ := box4 Xp_2.out; have lp2 := heap_lt Xp_2.out; obtain ⟨cres2_0, cres2_1, cres2_2, cres2_3, fres2_0, fres2_1, fres2_2, fres2_3⟩ := box4 Xres_2.out; have lres2 := heap_lt Xres_2.out; have S2 : w.heap.size ≤ w2.heap.size := by omega)
      clear cp1_0 cp1_1 cp1_2 cp1_3 fp1_0 fp1_1 fp1_2 fp1_3 cres1_0 cres1_1 cres1_2 cres1_3 fres1_0 fres1_1 fres1_2 fres1_3
      go_wp2_with (fail)
      refine bodyPost_ret (v := .tuple #[.agg #[.int .i64 2, .int .i64 t, .int .i64 x, .slice none 0 0], .slice ay o.waits.length py, .bool true]) (by simp [results, Try.results27, go_sem, cres2_0, cres2_1, cres2_2, cres2_3, lres2]) rfl ⟨_, _, rfl, OnceOwn.nils, LOwn.of ((((Oy_2.out.setB (w.heap.size + 1) 0 Xres_2.out (by decide) (.int .i64 2)).setB (w.heap.size + 1) 1 (set_at (a := ⟨w.heap.size + 1, 0, none⟩) Xres_2.out rfl rfl (.int .i64 2)) (by decide) (.int .i64 t)).setB (w.heap.size + 1) 2 (set_at (a := ⟨w.heap.size + 1, 1, none⟩) (set_at (a := ⟨w.heap.size + 1, 0, none⟩) Xres_2.out rfl rfl (.int .i64 2)) rfl rfl (.int .i64 t)) (by decide) (.int .i64 x)).setB (w.heap.size + 1) 3 (set_at (a := ⟨w.heap.size + 1, 2, none⟩) (set_at (a := ⟨w.heap.size + 1, 1, none⟩) (set_at (a := ⟨w.heap.size + 1, 0, none⟩) Xres_2.out rfl rfl (.int .i64 2)) rfl rfl (.int .i64 t)) rfl rfl (.int .i64 x)) (by decide) (.slice none 0 0)) (Nat.le_refl _), (below_setAt (below_setAt (below_setAt (below_setAt B2.out (w.heap.size + 1) 0 (by first | omega | (simp only [szA, szS, szD, World.heap_drewN] at * <;> omega)) (.int .i64 2)) (w.heap.size + 1) 1 (by first | omega | (simp only [szA, szS, szD, World.heap_drewN] at * <;> omega)) (.int .i64 t)) (w.heap.size + 1) 2 (by first | omega | (simp only [szA, szS, szD, World.heap_drewN] at * <;> omega)) (.int .i64 x)) (w.heap.size + 1) 3 (by first | omega | (simp only [szA, szS, szD, World.heap_drewN] at * <;> omega)) (.slice none 0 0))⟩
end Go.Proofs.Ytmmkbiljjhigfaa
