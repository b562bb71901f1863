/- The exact laws' helpers on operations, slices of them and slices of such slices: what they do (made by gen_elop.py). -/
import Derived.Test.YtobkammimkgnkaaG1
namespace Go.Proofs.Ytobkammimkgnkaa
open Go.RowKit
set_option linter.unusedSimpArgs false
set_option linter.unusedVariables false
theorem info_Op : (Try.prog.info? 36).map (fun i => (i.zero, i.size, i.bytes)) = some (some (.agg #[.int .i64 0, .int .i64 0, .int .i64 0]), 3, 24) := by kernel_rfl
theorem info_OpS : (Try.prog.info? 47).map (fun i => (i.zero, i.size, i.bytes)) = some (some (.slice none 0 0), 1, 24) := by kernel_rfl
abbrev opv (x : OpT) : Value := .agg #[.int .i64 x.1, .int .i64 x.2.1, .int .i64 x.2.2]
theorem szOpS_calls (a : Option Addr) (n c : Nat) (left : Int) (w : World) (hn : n ≤ 9223372036854775807) (h0 : 0 ≤ left) (h1 : left ≤ 1048576) :
    Calls Try.prog 53 #[.slice a n c, .int .i64 left] w fun e w' => e = .returned (.int .i64 (szF left n)) ∧ w = w' := by
  by_cases h : (n : Int) ≤ left
  · go_enter Try.func53, Try.ntmps53
    go_wp2
    go_ret
    exact ⟨ret_int (by rw [szF, if_pos h]), rfl⟩
  · go_enter Try.func53, Try.ntmps53
    go_wp2
    go_ret
    exact ⟨ret_int (by rw [szF, if_neg (by omega)]), rfl⟩
def ttSum (ts : List (List OpT)) : Nat := (ts.map (·.length)).sum
theorem ttSum_succ {ts : List (List OpT)} {k : Nat} {t : List OpT} (h : ts[k]? = some t) : ttSum (ts.take (k + 1)) = ttSum (ts.take k) + t.length := by
  rw [take_snoc h]; simp [ttSum]
theorem ttSum_take (ts : List (List OpT)) (k : Nat) : ttSum (ts.take k) ≤ ttSum ts := by
  have e : ttSum ts = ttSum (ts.take k) + ttSum (ts.drop k) := by
    unfold ttSum
    rw [← List.sum_append, ← List.map_append, List.take_append_drop]
  omega
def ttLen (ts : List (List OpT)) : Nat := ts.length + ttSum ts
set_option maxHeartbeats 1600000 in
theorem szOpSS_calls (v : Value) (ts : List (List OpT)) (left : Int) (w : World) (h : TTRow w v ts) (h0 : 0 ≤ left) (h1 : left ≤ 1048576) :
    Calls Try.prog 28 #[v, .int .i64 left] w fun e w' => e = .returned (.int .i64 (szF left (ttLen ts))) ∧ Below w.heap.size w w' := by
  obtain ⟨a, c, rfl, l, m, r⟩ := h.look
  have R := Lib.hid r; clear r
  have hm : ts.length ≤ 9223372036854775807 := by omega
  by_cases hl : (ts.length : Int) ≤ left
  · go_enter Try.func28, Try.ntmps28
    go_wp2
    go_loopw [1, 5] (fun s i wr => ∃ k : Nat, k ≤ ts.length ∧ i = .int .i64 k ∧ s = .int .i64 (left - ts.length - ttSum (ts.take k)) ∧ (ttSum (ts.take k) : Int) ≤ left - ts.length ∧ ∃ d, wr = w.drewN d) (fun _ i _ => ts.length - (intOf i).toNat)
    case atStart => exact ⟨0, Nat.zero_le _, rfl, by simp [ttSum], by simp [ttSum]; omega, 0, rfl⟩
    case round =>
      obtain ⟨k, hk, rfl, rfl, hs, d, rfl⟩ := hrel
      by_cases hlt : k < ts.length
      · obtain ⟨b, o, rfl, hb1, hc1⟩ := R.out (by omega)
        obtain ⟨t, ht⟩ := get_ex hlt
        obtain ⟨ct, dt, k1, k2⟩ := hc1 k t ht
        have hz := ttSum_succ ht
        have hz2 := ttSum_take ts (k + 1)
        have htl : t.length ≤ 9223372036854775807 := by obtain ⟨_, _, _, g1, g2, _⟩ := k2; omega
        have HZ := Lib.hid hz; have HZ2 := Lib.hid hz2; clear hz hz2 hc1 ht k2
        go_wp2_with (fail)
        refine (szOpS_calls ct t.length dt (left - ts.length - ttSum (ts.take k)) _ htl (by omega) (by omega)).mono ?_
        rintro e w' ⟨rfl, rfl⟩
        by_cases hg : (t.length : Int) ≤ left - ts.length - ttSum (ts.take k)
        · rw [szF_pos hg]
          go_wp2
          go_roundw
          case rel => exact ⟨k + 1, by omega, by go_num, by rw [HZ.out]; first | go_num | (simp; omega), by rw [HZ.out]; omega, _, rfl⟩
          case measure => simp [intOf]; omega
        · rw [szF_neg hg]
          go_wp2
          go_ret
          exact ⟨ret_int (by rw [szF_neg (by unfold ttLen; have := HZ.out; have := HZ2.out; omega)]), below_drewN (Below.refl _ _) _⟩
      · have e : k = ts.length := by omega
        have E := Lib.hid e; clear e
        go_wp2
        go_ret
        refine ⟨ret_int ?_, below_drewN (Below.refl _ _) _⟩
        have e1 : ts.take k = ts := take_all (by rw [E.out]; exact Nat.le_refl _)
        rw [e1] at hs ⊢
        rw [szF_pos (by unfold ttLen; omega)]; unfold ttLen; omega
  · go_enter Try.func28, Try.ntmps28
    go_wp2
    go_ret
    exact ⟨ret_int (by rw [szF_neg (by unfold ttLen; omega)]), Below.refl _ _⟩
theorem toOp_calls (x : OpT) (w : World) :
    Calls Try.prog 18 #[opv x] w fun e w' => e = .returned (opv x) ∧ Below w.heap.size w w' := by
  go_enter Try.func18, Try.ntmps18
  go_wp2
  refine bodyPost_ret (v := opv x) (by simp [results, Try.results18, go_sem]) rfl ⟨rfl, (by repeat (first | (with_reducible assumption) | (with_reducible exact Below.refl _ _) | (refine Below.setCell ?_ (by first | omega | (simp only [szA, szS, szD, World.heap_drewN] at * <;> omega)) _) | (refine Below.alloc ?_ (by first | omega | (simp only [szA, szS, szD, World.heap_drewN] at * <;> omega)) _) | refine Below.drew ?_))⟩
set_option maxHeartbeats 1600000 in
theorem toOpS_calls (v : Value) (xs : List OpT) (w : World) (h : TRow w v xs) (hn : xs.length ≤ 1048576) :
    Calls Try.prog 54 #[v] w fun e w' => ∃ v', e = .returned v' ∧ Own w.heap.size 36 3 encT w' v' xs ∧ Below w.heap.size w w' := by
  obtain ⟨a, c, rfl, l, m, r⟩ := h.look
  have R := Lib.hid r; clear r
  have hm : xs.length ≤ 9223372036854775807 := by omega
  have hmk := run_mk (P := Try.prog) 47 36 _ 3 24 Try.underlying47 info_Op xs.length (by omega) hn
  go_enter Try.func54, Try.ntmps54
  go_wp2
  go_loopw [4] (fun i wr => ∃ k : Nat, k ≤ xs.length ∧ i = .int .i64 k ∧ Own w.heap.size 36 3 encT wr (.slice (some ⟨w.heap.size, 0, none⟩) k xs.length) (xs.take k) ∧ Below w.heap.size w wr ∧ w.heap.size < wr.heap.size) (fun i _ => xs.length - (intOf i).toNat)
  case atStart => exact ⟨0, Nat.zero_le _, rfl, Own.made w _ _ hn, (Below.refl _ _).alloc (Nat.le_refl _) _, by simp⟩
  case round =>
    obtain ⟨k, hk, rfl, ho, hb, hz⟩ := hrel
    have HO := Lib.hid ho; clear ho
    have HB := Lib.hid hb; clear hb
    by_cases hlt : k < xs.length
    · obtain ⟨b, o, rfl, hb1, hc1⟩ := R.out (by omega)
      obtain ⟨x, hx⟩ := get_ex hlt
      have hk1 := (HB.out.cell (p := ⟨b, o + k * 3, none⟩) hb1).trans (hc1 k x hx).1
      have hk2 := (HB.out.cell (p := ⟨b, o + k * 3 + 1, none⟩) hb1).trans (hc1 k x hx).2.1
      have hk3 := (HB.out.cell (p := ⟨b, o + k * 3 + 2, none⟩) hb1).trans (hc1 k x hx).2.2
      have HX := Lib.hid hx; clear hx hc1
      go_wp2_with (go_at_call 18; refine (toOp_calls x _).mono ?_; rintro e w1 ⟨rfl, hb⟩; have HB1 := Lib.hid hb; have hz1 := hb.size; clear hb; have HO1 := Lib.hid (HO.out.kept HB1.out); obtain ⟨⟨u0, hu0⟩, hf0⟩ := HO1.out.room (i := k * 3) (by omega); obtain ⟨⟨u1, hu1⟩, hf1⟩ := HO1.out.room (i := k * 3 + 1) (by omega); obtain ⟨⟨u2, hu2⟩, hf2⟩ := HO1.out.room (i := k * 3 + 2) (by omega))
      go_roundw
      case rel => exact ⟨k + 1, by omega, by go_num, by rw [take_snoc HX.out]; exact HO1.out.next3 hlt rfl, (((HB.out.trans (HB1.out.mono (by omega))).setCell (p := ⟨w.heap.size, k * 3, none⟩) (Nat.le_refl _) _).setCell (p := ⟨w.heap.size, k * 3 + 1, none⟩) (Nat.le_refl _) _).setCell (p := ⟨w.heap.size, k * 3 + 2, none⟩) (Nat.le_refl _) _, by simp only [szS]; omega⟩
      case measure => simp [intOf]; omega
    · have e : k = xs.length := by omega
      have E := Lib.hid e; clear e
      go_wp2
      go_ret
      refine ⟨_, rfl, ?_, HB.out⟩
      have h := HO.out
      rw [E.out, take_all (Nat.le_refl _)] at h
      exact h
/-- The outer slice takes one more; the inner ones stay. -/
theorem InnerOwn.setOuter {lo lo2 : Nat} {w : World} {us : List SV} {ts : List (List OpT)} {g n cap : Nat} (h : InnerOwn lo w us ts) (ho : Own lo2 47 1 encS w (.slice (some ⟨g, 0, none⟩) n cap) us) (j : Nat) (u : Value) : InnerOwn lo (w.setCell ⟨g, j, none⟩ u) us ts := by
  obtain ⟨_, _, _, _, _, cur, hg, _⟩ := ho.open
  exact ⟨h.1, fun i x t hx ht => ⟨(h.2 i x t hx ht).1, (h.2 i x t hx ht).2.set_off (a := ⟨g, j, none⟩) ((h.2 i x t hx ht).2.ne hg (by decide)) u⟩⟩
set_option maxHeartbeats 1600000 in
theorem toOpSS_calls (v : Value) (ts : List (List OpT)) (w : World) (h : TTRow w v ts) (hn : ttLen ts ≤ 1048576) :
    Calls Try.prog 32 #[v] w fun e w' => ∃ v', e = .returned v' ∧ TTOwn w.heap.size w' v' ts ∧ Below w.heap.size w w' := by
  obtain ⟨a, c, rfl, l, m, r⟩ := h.look
  have R := Lib.hid r; clear r
  have hn1 : ts.length ≤ 1048576 := by unfold ttLen at hn; omega
  have hm : ts.length ≤ 9223372036854775807 := by omega
  have hmk := run_mk (P := Try.prog) 28 47 _ 1 24 Try.underlying28 info_OpS ts.length (by omega) hn1
  go_enter Try.func32, Try.ntmps32
  go_wp2
  go_loopw [4] (fun i wr => ∃ (k : Nat) (us : List SV), k ≤ ts.length ∧ i = .int .i64 k ∧ Own w.heap.size 47 1 encS wr (.slice (some ⟨w.heap.size, 0, none⟩) k ts.length) us ∧ InnerOwn w.heap.size wr us (ts.take k) ∧ Below w.heap.size w wr ∧ w.heap.size < wr.heap.size) (fun i _ => ts.length - (intOf i).toNat)
  case atStart => exact ⟨0, [], Nat.zero_le _, rfl, by have := Own.made (e := 47) (k := 1) (enc := encS) w #[Value.slice none 0 0] ts.length hn1; simpa using this, InnerOwn.nil, (Below.refl _ _).alloc (Nat.le_refl _) _, by simp⟩
  case round =>
    obtain ⟨k, us, hk, rfl, ho, hi, hb, hz⟩ := hrel
    have HO := Lib.hid ho; clear ho
    have HI := Lib.hid hi; clear hi
    have HB := Lib.hid hb; clear hb
    by_cases hlt : k < ts.length
    · obtain ⟨b, o, rfl, hb1, hc1⟩ := R.out (by omega)
      obtain ⟨t, ht⟩ := get_ex hlt
      obtain ⟨ct, dt, k1, k2⟩ := hc1 k t ht
      have hk1 := (HB.out.cell (p := ⟨b, o + k, none⟩) hb1).trans k1
      have htl : t.length ≤ 1048576 := by have e1 := ttSum_succ ht; have e2 := ttSum_take ts (k + 1); unfold ttLen at hn; omega
      have KT := Lib.hid k2; have HT := Lib.hid ht; clear ht hc1 k1 k2
      go_wp2_with (go_at_call 54; refine (toOpS_calls _ t _ (Row.below KT.out (Below.mono HB.out (Nat.le_refl _))) htl).mono ?_; rintro e w1 ⟨v1, rfl, hq, hb⟩; have HB1 := Lib.hid hb; have hz1 := hb.size; clear hb; obtain ⟨a1, c1, rfl⟩ := hq.form; have HQ := Lib.hid hq; clear hq; have HO1 := Lib.hid (HO.out.kept HB1.out); have HI1 := Lib.hid (HI.out.kept HB1.out); obtain ⟨⟨u0, hu0⟩, hf0⟩ := HO1.out.room (i := k) (by omega))
      go_roundw
      case rel =>
        refine ⟨k + 1, us ++ [(a1, t.length, c1)], by omega, by go_num, HO1.out.next1 hlt rfl, ?_, (HB.out.trans (HB1.out.mono (by omega))).setCell (p := ⟨w.heap.size, k, none⟩) (Nat.le_refl _) _, by simp only [szS]; omega⟩
        rw [take_snoc HT.out]
        refine (InnerOwn.setOuter HI1.out HO1.out k _).snoc ?_
        obtain ⟨_, _, _, _, _, cur, hg, _⟩ := HO1.out.open
        exact (HQ.out.mono (by omega)).set_off (a := ⟨w.heap.size, k, none⟩) (HQ.out.ne hg (by decide)) _
      case measure => simp [intOf]; omega
    · have e : k = ts.length := by omega
      have E := Lib.hid e; clear e
      go_wp2
      go_ret
      have h := HO.out
      have hi := HI.out
      rw [E.out, take_all (Nat.le_refl _)] at hi
      rw [E.out] at h
      exact ⟨_, rfl, ⟨us, h, hi⟩, HB.out⟩
theorem eqOp_calls (x y : OpT) (w : World) :
    Calls Try.prog 63 #[opv x, opv y] w fun e w' => e = .returned (.bool (decide (x = y))) ∧ Below w.heap.size w w' := by
  obtain ⟨x1, x2, x3⟩ := x
  obtain ⟨y1, y2, y3⟩ := y
  dsimp only [opv]
  by_cases h1 : x1 = y1
  · have d1 : (x1 != y1) = false := by simpa using h1
    have H1 := Lib.hid h1; clear h1
    by_cases h2 : x2 = y2
    · have d2 : (x2 != y2) = false := by simpa using h2
      have H2 := Lib.hid h2; clear h2
      by_cases h3 : x3 = y3
      · have d3 : (x3 != y3) = false := by simpa using h3
        have H3 := Lib.hid h3; clear h3
        go_enter Try.func63, Try.ntmps63
        go_wp2
        go_ret
        exact ⟨ret_bool (decide_eq_true (by rw [H1.out, H2.out, H3.out])).symm, (by repeat (first | (with_reducible assumption) | (with_reducible exact Below.refl _ _) | (refine Below.setCell ?_ (by first | omega | (simp only [szA, szS, szD, World.heap_drewN] at * <;> omega)) _) | (refine Below.alloc ?_ (by first | omega | (simp only [szA, szS, szD, World.heap_drewN] at * <;> omega)) _) | refine Below.drew ?_))⟩
      · have d3 : (x3 != y3) = true := by simpa using h3
        have H3 := Lib.hid h3; clear h3
        go_enter Try.func63, Try.ntmps63
        go_wp2
        go_ret
        exact ⟨ret_bool (decide_eq_false (by intro e; simp only [Prod.mk.injEq] at e; exact H3.out e.2.2)).symm, (by repeat (first | (with_reducible assumption) | (with_reducible exact Below.refl _ _) | (refine Below.setCell ?_ (by first | omega | (simp only [szA, szS, szD, World.heap_drewN] at * <;> omega)) _) | (refine Below.alloc ?_ (by first | omega | (simp only [szA, szS, szD, World.heap_drewN] at * <;> omega)) _) | refine Below.drew ?_))⟩
    · have d2 : (x2 != y2) = true := by simpa using h2
      have H2 := Lib.hid h2; clear h2
      go_enter Try.func63, Try.ntmps63
      go_wp2
      go_ret
      exact ⟨ret_bool (decide_eq_false (by intro e; simp only [Prod.mk.injEq] at e; exact H2.out e.2.1)).symm, (by repeat (first | (with_reducible assumption) | (with_reducible exact Below.refl _ _) | (refine Below.setCell ?_ (by first | omega | (simp only [szA, szS, szD, World.heap_drewN] at * <;> omega)) _) | (refine Below.alloc ?_ (by first | omega | (simp only [szA, szS, szD, World.heap_drewN] at * <;> omega)) _) | refine Below.drew ?_))⟩
  · have d1 : (x1 != y1) = true := by simpa using h1
    have H1 := Lib.hid h1; clear h1
    go_enter Try.func63, Try.ntmps63
    go_wp2
    go_ret
    exact ⟨ret_bool (decide_eq_false (by intro e; simp only [Prod.mk.injEq] at e; exact H1.out e.1)).symm, (by repeat (first | (with_reducible assumption) | (with_reducible exact Below.refl _ _) | (refine Below.setCell ?_ (by first | omega | (simp only [szA, szS, szD, World.heap_drewN] at * <;> omega)) _) | (refine Below.alloc ?_ (by first | omega | (simp only [szA, szS, szD, World.heap_drewN] at * <;> omega)) _) | refine Below.drew ?_))⟩
set_option maxHeartbeats 1600000 in
theorem eqOpS_calls (v1 v2 : Value) (p q : List (OpT)) (w : World) (h1 : TRow w v1 p) (h2 : TRow w v2 q) :
    Calls Try.prog 55 #[v1, v2] w fun e w' => e = .returned (.bool (decide (p = q))) ∧ Below w.heap.size w w' := by
  obtain ⟨a1, c1, rfl, l1, m1, r1⟩ := h1.look
  obtain ⟨a2, c2, rfl, l2, m2, r2⟩ := h2.look
  have R1 := Lib.hid r1; clear r1
  have R2 := Lib.hid r2; clear r2
  have hm : p.length ≤ 9223372036854775807 := by omega
  by_cases hl : p.length = q.length
  · have hd := len_bne hl
    have HL := Lib.hid hl; clear hl
    go_enter Try.func55, Try.ntmps55
    go_wp2
    go_loopw [5] (fun i wr => ∃ k : Nat, k ≤ p.length ∧ i = .int .i64 k ∧ p.take k = q.take k ∧ Below w.heap.size w wr) (fun i _ => p.length - (intOf i).toNat)
    case atStart => exact ⟨0, Nat.zero_le _, rfl, rfl, Below.refl _ _⟩
    case round =>
      obtain ⟨k, hk, rfl, he, hb⟩ := hrel
      have HE := Lib.hid he; clear he
      have HB := Lib.hid hb; clear hb
      have hz := HB.out.size
      by_cases hlt : k < p.length
      · have hlt2 : k < q.length := by have := HL.out; omega
        obtain ⟨b1, o1, rfl, hb1, hc1⟩ := R1.out (by omega)
        obtain ⟨b2, o2, rfl, hb2, hc2⟩ := R2.out (by omega)
        obtain ⟨x, hx⟩ := get_ex hlt
        obtain ⟨y, hy⟩ := get_ex hlt2
        have k10 := later_cell (B := wr.heap.size) ((HB.out.cell (p := ⟨b1, o1 + k * 3, none⟩) hb1).trans (hc1 k x hx).1) (Nat.lt_of_lt_of_le hb1 hz)
        have k11 := later_cell (B := wr.heap.size) ((HB.out.cell (p := ⟨b1, o1 + k * 3 + 1, none⟩) hb1).trans (hc1 k x hx).2.1) (Nat.lt_of_lt_of_le hb1 hz)
        have k12 := later_cell (B := wr.heap.size) ((HB.out.cell (p := ⟨b1, o1 + k * 3 + 2, none⟩) hb1).trans (hc1 k x hx).2.2) (Nat.lt_of_lt_of_le hb1 hz)
        have k20 := later_cell (B := wr.heap.size) ((HB.out.cell (p := ⟨b2, o2 + k * 3, none⟩) hb2).trans (hc2 k y hy).1) (Nat.lt_of_lt_of_le hb2 hz)
        have k21 := later_cell (B := wr.heap.size) ((HB.out.cell (p := ⟨b2, o2 + k * 3 + 1, none⟩) hb2).trans (hc2 k y hy).2.1) (Nat.lt_of_lt_of_le hb2 hz)
        have k22 := later_cell (B := wr.heap.size) ((HB.out.cell (p := ⟨b2, o2 + k * 3 + 2, none⟩) hb2).trans (hc2 k y hy).2.2) (Nat.lt_of_lt_of_le hb2 hz)
        have HX := Lib.hid hx; clear hx hc1
        have HY := Lib.hid hy; clear hy hc2
        go_wp2
        refine wp_region_later wr.heap.size (by kernel_rfl) (by kernel_rfl) ?_
        repeat (go_big_quiet_step ((go_at_call 63; refine (eqOp_calls x y _).mono ?_; rintro e w' ⟨rfl, hb⟩; exact later_call hb)))
        refine wpQuiet_nil ?_
        rintro _ ⟨z, rfl⟩
        go_wp2
        · go_ret
          exact ⟨ret_bool (ne_false HX.out HY.out (by simpa using ‹(!decide (x = y)) = true›)).symm, HB.out.trans (z.2.mono hz)⟩
        · go_roundw
          case rel => exact ⟨k + 1, by omega, by go_num, take_eq HE.out HX.out HY.out (by simpa using ‹(!decide (x = y)) = false›), HB.out.trans (z.2.mono hz)⟩
          case measure => simp [intOf]; omega
      · go_wp2
        go_ret
        exact ⟨ret_bool (all_eq HL.out (by omega) HE.out).symm, HB.out⟩
  · have hd := len_bne' hl
    go_enter Try.func55, Try.ntmps55
    go_wp2
    go_ret
    exact ⟨ret_bool (len_false hl).symm, Below.refl _ _⟩
set_option maxHeartbeats 1600000 in
theorem eqOpSS_calls (v1 v2 : Value) (p q : List (List OpT)) (w : World) (h1 : TTRow w v1 p) (h2 : TTRow w v2 q) :
    Calls Try.prog 38 #[v1, v2] w fun e w' => e = .returned (.bool (decide (p = q))) ∧ Below w.heap.size w w' := by
  obtain ⟨a1, c1, rfl, l1, m1, r1⟩ := h1.look
  obtain ⟨a2, c2, rfl, l2, m2, r2⟩ := h2.look
  have R1 := Lib.hid r1; clear r1
  have R2 := Lib.hid r2; clear r2
  have hm : p.length ≤ 9223372036854775807 := by omega
  by_cases hl : p.length = q.length
  · have hd := len_bne hl
    have HL := Lib.hid hl; clear hl
    go_enter Try.func38, Try.ntmps38
    go_wp2
    go_loopw [5] (fun i wr => ∃ k : Nat, k ≤ p.length ∧ i = .int .i64 k ∧ p.take k = q.take k ∧ Below w.heap.size w wr) (fun i _ => p.length - (intOf i).toNat)
    case atStart => exact ⟨0, Nat.zero_le _, rfl, rfl, Below.refl _ _⟩
    case round =>
      obtain ⟨k, hk, rfl, he, hb⟩ := hrel
      have HE := Lib.hid he; clear he
      have HB := Lib.hid hb; clear hb
      have hz := HB.out.size
      by_cases hlt : k < p.length
      · have hlt2 : k < q.length := by have := HL.out; omega
        obtain ⟨b1, o1, rfl, hb1, hc1⟩ := R1.out (by omega)
        obtain ⟨b2, o2, rfl, hb2, hc2⟩ := R2.out (by omega)
        obtain ⟨x, hx⟩ := get_ex hlt
        obtain ⟨y, hy⟩ := get_ex hlt2
        obtain ⟨s1, d1, g1, q1⟩ := hc1 k x hx
        have k1 := later_cell (B := wr.heap.size) ((HB.out.cell (p := ⟨b1, o1 + k, none⟩) hb1).trans g1) (Nat.lt_of_lt_of_le hb1 hz)
        have Q1 := Lib.hid (Row.below q1 HB.out); clear g1 q1
        obtain ⟨s2, d2, g2, q2⟩ := hc2 k y hy
        have k2 := later_cell (B := wr.heap.size) ((HB.out.cell (p := ⟨b2, o2 + k, none⟩) hb2).trans g2) (Nat.lt_of_lt_of_le hb2 hz)
        have Q2 := Lib.hid (Row.below q2 HB.out); clear g2 q2
        have HX := Lib.hid hx; clear hx hc1
        have HY := Lib.hid hy; clear hy hc2
        go_wp2
        refine wp_region_later wr.heap.size (by kernel_rfl) (by kernel_rfl) ?_
        repeat (go_big_quiet_step ((go_at_call 55; refine (eqOpS_calls _ _ x y _ (Row.later Q1.out _) (Row.later Q2.out _)).mono ?_; rintro e w' ⟨rfl, hb⟩; exact later_call hb)))
        refine wpQuiet_nil ?_
        rintro _ ⟨z, rfl⟩
        go_wp2
        · go_ret
          exact ⟨ret_bool (ne_false HX.out HY.out (by simpa using ‹(!decide (x = y)) = true›)).symm, HB.out.trans (z.2.mono hz)⟩
        · go_roundw
          case rel => exact ⟨k + 1, by omega, by go_num, take_eq HE.out HX.out HY.out (by simpa using ‹(!decide (x = y)) = false›), HB.out.trans (z.2.mono hz)⟩
          case measure => simp [intOf]; omega
      · go_wp2
        go_ret
        exact ⟨ret_bool (all_eq HL.out (by omega) HE.out).symm, HB.out⟩
  · have hd := len_bne' hl
    go_enter Try.func38, Try.ntmps38
    go_wp2
    go_ret
    exact ⟨ret_bool (len_false hl).symm, Below.refl _ _⟩
end Go.Proofs.Ytobkammimkgnkaa
