/- PendingOf of both: what they return. -/
import Derived.Test.YtpgiinklbnlloaaChanValid
import Derived.Test.YtpgiinklbnlloaaChanValidS
import Derived.Test.YtpgiinklbnlloaaSpanI
namespace Go.Proofs.Ytpgiinklbnlloaa
open Go.RowKit
set_option linter.unusedSimpArgs false
set_option linter.unusedVariables false
def pend (c : ChanD) : List Int × Bool := if chanB c = true then (c.items ++ c.senders.map (·.2), true) else ([], false)
theorem pend_small {c : ChanD} {y : List Int} {b : Bool} (h : pend c = (y, b)) : y.length ≤ 10 := by
  unfold pend at h
  split at h
  · rename_i hs
    have h1 := (chanB_true.1 hs).small
    injection h with h _; subst h; simp; omega
  · injection h with h _; subst h; simp
theorem LOwn.nil {lo hi : Nat} {w : World} : LOwn lo hi w (.slice none 0 0) [] := ⟨none, 0, rfl, Own.nil _ _ _ _ _, fun g e => by cases e⟩
set_option maxHeartbeats 2000000 in
theorem PendingOfO (v : Value) (c : ChanD) (y : List Int) (b1 : Bool) (w : World) (h : ChanRow w v c) (hn : c.items.length + c.senders.length + c.getters.length ≤ 1048576) (hr : pend c = (y, b1)) :
    Calls Try.prog 28 #[v] w fun e w' => ∃ v', e = .returned (.tuple #[v', .bool b1]) ∧ LOwn w.heap.size w'.heap.size w' v' y ∧ Below w.heap.size w w' := by
  obtain ⟨room, it, q, gt, cl⟩ := c
  have HR := Lib.hid h
  obtain ⟨a1, p1, a2, p2, a3, p3, rfl, r1, r2, r3⟩ := h
  dsimp only at r1 r2 r3 hn HR ⊢
  obtain ⟨x2, y2, e, l2, m2, r⟩ := PRow.look r2
  injection e with e1 e2 e3
  subst e1 e3
  have R1 := Lib.hid r1; clear r1
  have R := Lib.hid r; clear r
  have n2 : q.length ≤ 9223372036854775807 := by omega
  have X0 := Lib.hid (heap_at w (.cells #[.int .i64 room, .slice a1 it.length p1, .slice a2 q.length p2, .slice a3 gt.length p3, .bool cl] 25))
  have B00 := Lib.hid ((Below.refl w.heap.size w).alloc (Nat.le_refl _) (.cells #[.int .i64 room, .slice a1 it.length p1, .slice a2 q.length p2, .slice a3 gt.length p3, .bool cl] 25))
  unfold pend at hr
  by_cases hv : chanB ⟨room, it, q, gt, cl⟩ = true
  · rw [if_pos hv] at hr
    injection hr with e1 e2
    subst e1 e2
    have HV := Lib.hid hv; clear hv
    go_enter Try.func28, Try.ntmps28
    go_wp2_with (fail)
    refine (ChanValid_calls _ ⟨room, it, q, gt, cl⟩ _ (ChanRow.below HR.out B00.out) hn).mono ?_
    rw [HV.out]
    rintro e w1 ⟨rfl, hb⟩
    have B1 := Lib.hid (B00.out.trans (hb.mono (by simp only [szA]; omega))); have X1 := Lib.hid (below_at hb X0.out); have z1 := hb.size; simp only [szA] at z1
    clear hb
    obtain ⟨c0, c1, c2, c3, c4, f0, f1, f2, f3, f4⟩ := box5 X1.out; have l1 := heap_lt X1.out
    go_wp2_with (fail)
    refine (cloneInts_calls _ it _ (Row.below R1.out B1.out) (by omega)).mono ?_
    rintro e w2 ⟨v2, rfl, ho, hb⟩
    have B2 := Lib.hid (B1.out.trans (hb.mono (by omega))); have X2 := Lib.hid (below_at hb X1.out); have z2 := hb.size
    have O2 := Lib.hid (Own.mono (base' := w.heap.size + 1) ho.own (by omega))
    obtain ⟨ad2, cp2, rfl, hx⟩ := ho
    clear hb hx c0 c1 c2 c3 c4 f0 f1 f2 f3 f4
    obtain ⟨c0, c1, c2, c3, c4, f0, f1, f2, f3, f4⟩ := box5 X2.out
    go_wp2
    go_loopw [4, 16] (fun t i wr => ∃ k : Nat, k ≤ q.length ∧ i = .int .i64 k ∧ Own (w.heap.size + 1) 3 1 encI wr t (it ++ (q.take k).map (·.2)) ∧ Below (w.heap.size + 1) w2 wr) (fun _ i _ => q.length - (intOf i).toNat)
    case atStart => exact ⟨0, Nat.zero_le _, rfl, by simpa using O2.out, Below.refl _ _⟩
    case round =>
      obtain ⟨k, hk, rfl, ho, hb⟩ := hrel
      have HO := Lib.hid ho
      have HB := Lib.hid hb; clear hb
      have hz : w.heap.size < wr.heap.size := by have := HB.out.size; omega
      have BW := Lib.hid (B2.out.trans (HB.out.mono (by omega)))
      by_cases hlt : k < q.length
      · obtain ⟨b, o, rfl, hb1, hc1⟩ := R.out (by omega)
        obtain ⟨x, hx⟩ := get_ex hlt
        have hk1 := (BW.out.cell (p := ⟨b, o + k * 2, none⟩) hb1).trans (hc1 k x hx).1
        have hk2 := (BW.out.cell (p := ⟨b, o + k * 2 + 1, none⟩) hb1).trans (hc1 k x hx).2
        obtain ⟨ts, hts⟩ : ∃ ts, it ++ (q.take k).map (·.2) = ts := ⟨_, rfl⟩
        have hl : ts.length = it.length + k := by rw [← hts]; simp; omega
        have hL : (ts.length + 1) * 8 ≤ 140737488355328 := by omega
        have HL := Lib.hid hL; clear hL
        have HLL := Lib.hid hl; clear hl
        rw [hts] at ho
        obtain ⟨ad, cp, rfl⟩ := ho.form
        have HO1 := Lib.hid ho; clear ho
        have HTS := Lib.hid hts; clear hts
        have HX := Lib.hid hx; clear hx hc1
        go_wp2_with (at_builtin; (refine wpList_snoc _ encI_len encI_one rfl _ _ 22 rfl 3 _ 8 Try.underlying22 info_int rfl (by decide) (w.heap.size + 1) (.slice ad ts.length cp) ts rfl (HO1.out.alloc _) x.2 _ rfl _ rfl (by simp) (by decide) HL.out (by omega) ?_); intro ad1 cp1 w3 hown hg hat; have HO3 := Lib.hid hown; have HG3 := Lib.hid hg; clear hown hg hat)
        go_roundw
        case rel =>
          refine ⟨k + 1, by omega, by go_num, ?_, push_below (HB.out.alloc (by omega) _) HG3.out HO1.out.blk (by simp only [szA]; omega) (Nat.le_refl _)⟩
          rw [take_snoc HX.out, List.map_append, ← List.append_assoc, HTS.out]; exact HO3.out
        case measure => simp [intOf]; omega
      · have e : q.take k = q := take_all (by omega)
        rw [e] at ho
        obtain ⟨ts, hts⟩ : ∃ ts, it ++ q.map (·.2) = ts := ⟨_, rfl⟩
        rw [hts] at ho
        obtain ⟨ad, cp, rfl⟩ := ho.form
        have HO1 := Lib.hid ho; clear ho HO e
        have HTS := Lib.hid hts; clear hts
        go_wp2
        go_ret2
        exact ⟨_, rfl, by rw [HTS.out]; exact LOwn.of (HO1.out.mono (by omega)) (Nat.le_refl _), BW.out⟩
  · rw [if_neg hv] at hr
    injection hr with e1 e2
    subst e1 e2
    have hv2 : chanB ⟨room, it, q, gt, cl⟩ = false := by simpa using hv
    have HV := Lib.hid hv2; clear hv hv2
    go_enter Try.func28, Try.ntmps28
    go_wp2_with (fail)
    refine (ChanValid_calls _ ⟨room, it, q, gt, cl⟩ _ (ChanRow.below HR.out B00.out) hn).mono ?_
    rw [HV.out]
    rintro e w1 ⟨rfl, hb⟩
    have B1 := Lib.hid (B00.out.trans (hb.mono (by simp only [szA]; omega)))
    clear hb
    go_wp2
    go_ret2
    exact ⟨_, rfl, LOwn.nil, B1.out⟩
set_option maxHeartbeats 2000000 in
theorem sPendingOfO (v : Value) (c : ChanD) (y : List Int) (b1 : Bool) (w : World) (h : ChanRow w v c) (hn : c.items.length + c.senders.length + c.getters.length ≤ 1048576) (hr : pend c = (y, b1)) :
    Calls Try.prog 29 #[v] w fun e w' => ∃ v', e = .returned (.tuple #[v', .bool b1]) ∧ LOwn w.heap.size w'.heap.size w' v' y ∧ Below w.heap.size w w' := by
  obtain ⟨room, it, q, gt, cl⟩ := c
  have HR := Lib.hid h
  obtain ⟨a1, p1, a2, p2, a3, p3, rfl, r1, r2, r3⟩ := h
  dsimp only at r1 r2 r3 hn HR ⊢
  obtain ⟨x2, y2, e, l2, m2, r⟩ := PRow.look r2
  injection e with e1 e2 e3
  subst e1 e3
  have R1 := Lib.hid r1; clear r1
  have R := Lib.hid r; clear r
  have n2 : q.length ≤ 9223372036854775807 := by omega
  have hl8 : it.length * 8 ≤ 140737488355328 := by omega
  have HL8 := Lib.hid hl8; clear hl8
  have X0 := Lib.hid (heap_at w (.cells #[.int .i64 room, .slice a1 it.length p1, .slice a2 q.length p2, .slice a3 gt.length p3, .bool cl] 25))
  have B00 := Lib.hid ((Below.refl w.heap.size w).alloc (Nat.le_refl _) (.cells #[.int .i64 room, .slice a1 it.length p1, .slice a2 q.length p2, .slice a3 gt.length p3, .bool cl] 25))
  unfold pend at hr
  by_cases hv : chanB ⟨room, it, q, gt, cl⟩ = true
  · rw [if_pos hv] at hr
    injection hr with e1 e2
    subst e1 e2
    have HV := Lib.hid hv; clear hv
    go_enter Try.func29, Try.ntmps29
    go_wp2_with (fail)
    refine (sChanValid_calls _ ⟨room, it, q, gt, cl⟩ _ (ChanRow.below HR.out B00.out) hn).mono ?_
    rw [HV.out]
    rintro e w1 ⟨rfl, hb⟩
    have B1 := Lib.hid (B00.out.trans (hb.mono (by simp only [szA]; omega))); have X1 := Lib.hid (below_at hb X0.out); have z1 := hb.size; simp only [szA] at z1
    clear hb
    obtain ⟨c0, c1, c2, c3, c4, f0, f1, f2, f3, f4⟩ := box5 X1.out; have l1 := heap_lt X1.out
    go_wp2_with (at_builtin; refine wpList_cloneE _ encI_len encI_one rfl _ _ 22 rfl 3 _ 8 Try.underlying22 info_int rfl (by decide) _ rfl rfl (.slice a1 it.length p1) it rfl (Row.below R1.out B1.out) (by decide) HL8.out ?_; intro ad2 cp2 w2 hown hb; have O2 := Lib.hid (Own.mono (base' := w.heap.size + 1) hown (by omega)); have B2 := Lib.hid (B1.out.trans (hb.mono (by omega))); have X2 := Lib.hid (below_at hb X1.out); have z2 := hb.size; clear hown hb c0 c1 c2 c3 c4 f0 f1 f2 f3 f4; obtain ⟨c0, c1, c2, c3, c4, f0, f1, f2, f3, f4⟩ := box5 X2.out)
    go_loopw [4, 5] (fun t i wr => ∃ k : Nat, k ≤ q.length ∧ i = .int .i64 k ∧ Own (w.heap.size + 1) 3 1 encI wr t (it ++ (q.take k).map (·.2)) ∧ Below (w.heap.size + 1) w2 wr) (fun _ i _ => q.length - (intOf i).toNat)
    case atStart => exact ⟨0, Nat.zero_le _, rfl, by simpa using O2.out, Below.refl _ _⟩
    case round =>
      obtain ⟨k, hk, rfl, ho, hb⟩ := hrel
      have HO := Lib.hid ho
      have HB := Lib.hid hb; clear hb
      have hz : w.heap.size < wr.heap.size := by have := HB.out.size; omega
      have BW := Lib.hid (B2.out.trans (HB.out.mono (by omega)))
      have X3 := Lib.hid (below_at' HB.out X2.out (by omega))
      clear c0 c1 c2 c3 c4 f0 f1 f2 f3 f4
      obtain ⟨c0, c1, c2, c3, c4, f0, f1, f2, f3, f4⟩ := box5 X3.out
      by_cases hlt : k < q.length
      · obtain ⟨b, o, rfl, hb1, hc1⟩ := R.out (by omega)
        obtain ⟨x, hx⟩ := get_ex hlt
        have hk1 := (BW.out.cell (p := ⟨b, o + k * 2, none⟩) hb1).trans (hc1 k x hx).1
        have hk2 := (BW.out.cell (p := ⟨b, o + k * 2 + 1, none⟩) hb1).trans (hc1 k x hx).2
        obtain ⟨ts, hts⟩ : ∃ ts, it ++ (q.take k).map (·.2) = ts := ⟨_, rfl⟩
        have hl : ts.length = it.length + k := by rw [← hts]; simp; omega
        have hL : (ts.length + 1) * 8 ≤ 140737488355328 := by omega
        have HL := Lib.hid hL; clear hL
        have HLL := Lib.hid hl; clear hl
        rw [hts] at ho
        obtain ⟨ad, cp, rfl⟩ := ho.form
        have HO1 := Lib.hid ho; clear ho
        have HTS := Lib.hid hts; clear hts
        have HX := Lib.hid hx; clear hx hc1
        go_wp2_with (at_builtin; (refine wpList_snoc _ encI_len encI_one rfl _ _ 22 rfl 3 _ 8 Try.underlying22 info_int rfl (by decide) (w.heap.size + 1) (.slice ad ts.length cp) ts rfl HO1.out x.2 _ rfl _ rfl rfl (by decide) HL.out (by omega) ?_); intro ad1 cp1 w3 hown hg hat; have HO3 := Lib.hid hown; have HG3 := Lib.hid hg; clear hown hg hat)
        go_roundw
        case rel =>
          refine ⟨k + 1, by omega, by go_num, ?_, push_below HB.out HG3.out HO1.out.blk (by omega) (Nat.le_refl _)⟩
          rw [take_snoc HX.out, List.map_append, ← List.append_assoc, HTS.out]; exact HO3.out
        case measure => simp [intOf]; omega
      · have e : q.take k = q := take_all (by omega)
        rw [e] at ho
        obtain ⟨ts, hts⟩ : ∃ ts, it ++ q.map (·.2) = ts := ⟨_, rfl⟩
        rw [hts] at ho
        obtain ⟨ad, cp, rfl⟩ := ho.form
        have HO1 := Lib.hid ho; clear ho HO e
        have HTS := Lib.hid hts; clear hts
        go_wp2
        go_ret2
        exact ⟨_, rfl, by rw [HTS.out]; exact LOwn.of (HO1.out.mono (by omega)) (Nat.le_refl _), BW.out⟩
  · rw [if_neg hv] at hr
    injection hr with e1 e2
    subst e1 e2
    have hv2 : chanB ⟨room, it, q, gt, cl⟩ = false := by simpa using hv
    have HV := Lib.hid hv2; clear hv hv2
    go_enter Try.func29, Try.ntmps29
    go_wp2_with (fail)
    refine (sChanValid_calls _ ⟨room, it, q, gt, cl⟩ _ (ChanRow.below HR.out B00.out) hn).mono ?_
    rw [HV.out]
    rintro e w1 ⟨rfl, hb⟩
    have B1 := Lib.hid (B00.out.trans (hb.mono (by simp only [szA]; omega))); have z1 := hb.size; simp only [szA] at z1
    clear hb
    go_wp2
    go_ret2
    exact ⟨_, rfl, LOwn.of (Own.mono (Own.empty (heap_at w1 _) (Nat.le_refl _)) (by omega)) (Nat.le_refl _), B1.out.alloc (by omega) _⟩
end Go.Proofs.Ytpgiinklbnlloaa
