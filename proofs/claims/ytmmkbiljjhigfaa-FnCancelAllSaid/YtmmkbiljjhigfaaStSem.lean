/- The struct Sem: its plain twin, what reads as it, the exact laws' helpers on it (made by gen_struct.py). -/
import Derived.Test.YtmmkbiljjhigfaaSpan
import Derived.Test.YtmmkbiljjhigfaaExI
import Derived.Test.YtmmkbiljjhigfaaElWaiter
import Derived.Test.YtmmkbiljjhigfaaSemRes
namespace Go.Proofs.Ytmmkbiljjhigfaa
open Go.RowKit
set_option linter.unusedSimpArgs false
set_option linter.unusedVariables false
/-- In w the value v reads as c. -/
def SemRow (w : World) (v : Value) (c : SemD) : Prop := ∃ a2 p2, v = .agg #[.int .i64 c.free, .int .i64 c.limit, .slice a2 c.q.length p2] ∧ PRow w (.slice a2 c.q.length p2) c.q
theorem SemRow.below {w w' : World} {v : Value} {c : SemD} (h : SemRow w v c) (hb : Below w.heap.size w w') : SemRow w' v c := by
  obtain ⟨a2, p2, rfl, h2⟩ := h
  exact ⟨_, _, rfl, Row.below h2 hb⟩
/-- .. and its slices are the call's own: their blocks lie from lo on and below hi. -/
def SemOwn (lo hi : Nat) (w : World) (v : Value) (c : SemD) : Prop := ∃ a2 p2, v = .agg #[.int .i64 c.free, .int .i64 c.limit, .slice a2 c.q.length p2] ∧ Own lo 62 2 encP w (.slice a2 c.q.length p2) c.q ∧ (∀ g, (Value.slice a2 c.q.length p2).ownBlock = some g → g < hi)
theorem SemOwn.row {lo hi : Nat} {w : World} {v : Value} {c : SemD} (h : SemOwn lo hi w v c) : SemRow w v c := by
  obtain ⟨a2, p2, rfl, h2, b2⟩ := h
  exact ⟨_, _, rfl, h2.row encP_len⟩
theorem SemOwn.kept {lo hi : Nat} {w w' : World} {v : Value} {c : SemD} (h : SemOwn lo hi w v c) (hb : Below w.heap.size w w') : SemOwn lo hi w' v c := by
  obtain ⟨a2, p2, rfl, h2, b2⟩ := h
  exact ⟨_, _, rfl, h2.kept hb, b2⟩
theorem SemOwn.span {lo hi l r : Nat} {w w' : World} {v : Value} {c : SemD} (h : SemOwn lo hi w v c) (hs : Span l r w w') (ho : hi ≤ l ∨ r ≤ lo) : SemOwn lo hi w' v c := by
  obtain ⟨a2, p2, rfl, h2, b2⟩ := h
  exact ⟨_, _, rfl, h2.span hs (fun g e => by have := b2 g e; have := (h2.block g e).1; omega), b2⟩
theorem SemOwn.mono {lo hi lo' hi' : Nat} {w : World} {v : Value} {c : SemD} (h : SemOwn lo hi w v c) (hl : lo' ≤ lo) (hh : hi ≤ hi') : SemOwn lo' hi' w v c := by
  obtain ⟨a2, p2, rfl, h2, b2⟩ := h
  exact ⟨_, _, rfl, h2.mono hl, fun g e => Nat.lt_of_lt_of_le (b2 g e) hh⟩
theorem SemOwn.alloc {lo hi : Nat} {w : World} {v : Value} {c : SemD} (h : SemOwn lo hi w v c) (o : Obj) : SemOwn lo hi (w.alloc o) v c := h.kept ((Below.refl _ _).alloc (Nat.le_refl _) o)
theorem SemOwn.drew {lo hi : Nat} {w : World} {v : Value} {c : SemD} (h : SemOwn lo hi w v c) : SemOwn lo hi w.drew v c := h
theorem SemOwn.grownL {lo hi : Nat} {w w' : World} {v u : Value} {c : SemD} (h : SemOwn lo hi w v c) (hg : w.grownBy w' u.ownBlock) (hf : Free u v) : SemOwn lo hi w' v c := by
  obtain ⟨a2, p2, rfl, h2, b2⟩ := h
  have e2 : (Value.slice a2 c.q.length p2).ownBlock = none ∨ (Value.slice a2 c.q.length p2).ownBlock ≠ u.ownBlock := by
    cases hu : u.ownBlock with
    | none => cases hv : (Value.slice a2 c.q.length p2).ownBlock with
      | none => exact .inl rfl
      | some g => exact .inr (fun e => by cases e)
    | some g => exact .inr fun e => hf g hu (by simp only [aggBlocks, List.map_cons, List.mem_cons]; simp [e])
  exact ⟨_, _, rfl, h2.growns hg e2, b2⟩
theorem szSem_calls (v : Value) (c : SemD) (left : Int) (w : World) (h : SemRow w v c) (h0 : 0 ≤ left) (h1 : left ≤ 1048576) :
    Calls Try.prog 42 #[v, .int .i64 left] w fun e w' => e = .returned (.int .i64 (szF left (c.q.length))) ∧ Below w.heap.size w w' := by
  obtain ⟨a2, p2, rfl, r2⟩ := h
  have n2 : c.q.length ≤ 9223372036854775807 := by obtain ⟨_, _, _, h2, h3, _⟩ := r2; omega
  clear r2
  have hb : Below w.heap.size w (w.alloc (.cells #[.int .i64 c.free, .int .i64 c.limit, .slice a2 c.q.length p2] 65)) := (Below.refl _ _).alloc (Nat.le_refl _) _
  have HB := Lib.hid hb; clear hb
  go_enter Try.func42, Try.ntmps42
  go_wp2_with (fail)
  refine (szWaiterS_calls a2 c.q.length p2 (left) _ n2 (by omega) (by omega)).mono ?_
  rintro e w' ⟨rfl, rfl⟩
  by_cases g2 : (c.q.length : Int) ≤ left
  · rw [szF_pos g2]
    go_wp2
    go_ret
    exact ⟨ret_int (by rw [szF_pos (by omega)] <;> omega), HB.out⟩
  · rw [szF_neg g2]
    go_wp2
    go_ret
    exact ⟨ret_int (by rw [szF_neg (by omega)]), HB.out⟩
set_option maxHeartbeats 3200000 in
theorem toSem_calls (v : Value) (c : SemD) (w : World) (h : SemRow w v c) (hn : c.q.length ≤ 1048576) :
    Calls Try.prog 43 #[v] w fun e w' => ∃ v', e = .returned v' ∧ SemOwn w.heap.size w'.heap.size w' v' c ∧ Below w.heap.size w w' := by
  obtain ⟨a2, p2, rfl, r2⟩ := h
  have R2 := Lib.hid r2; clear r2
  go_enter Try.func43, Try.ntmps43
  go_wp2_with (fail)
  have hb0 : Below w.heap.size w (((w.alloc (.cells #[.int .i64 c.free, .int .i64 c.limit, .slice a2 c.q.length p2] 65)).alloc (.cells #[.int .i64 0, .int .i64 0, .slice none 0 0] 48)).alloc (.cells #[.int .i64 c.free, .int .i64 c.limit, .slice none 0 0] 48)) := (((Below.refl _ _).alloc (Nat.le_refl _) _).alloc (by simp) _).alloc (by simp only [szA]; omega) _
  have B0 := Lib.hid hb0; clear hb0
  have XP0 := Lib.hid (heap_up (B := .cells #[.int .i64 c.free, .int .i64 c.limit, .slice none 0 0] 48) (heap_up (B := .cells #[.int .i64 0, .int .i64 0, .slice none 0 0] 48) (heap_at w (.cells #[.int .i64 c.free, .int .i64 c.limit, .slice a2 c.q.length p2] 65))))
  have XR0 := Lib.hid (heap_up (B := .cells #[.int .i64 c.free, .int .i64 c.limit, .slice none 0 0] 48) (heap_at1 w (.cells #[.int .i64 c.free, .int .i64 c.limit, .slice a2 c.q.length p2] 65) (.cells #[.int .i64 0, .int .i64 0, .slice none 0 0] 48)))
  have XO0 := Lib.hid (heap_at2 w (.cells #[.int .i64 c.free, .int .i64 c.limit, .slice a2 c.q.length p2] 65) (.cells #[.int .i64 0, .int .i64 0, .slice none 0 0] 48) (.cells #[.int .i64 c.free, .int .i64 c.limit, .slice none 0 0] 48))
  refine (toWaiterS_calls _ c.q _ (Row.below R2.out B0.out) (by omega)).mono ?_
  rintro e w1 ⟨v2, rfl, ho, hb⟩
  have B1 := Lib.hid ((B0.out).trans (hb.mono (B0.out).size)); have XP1 := Lib.hid (below_at hb (XP0.out)); have XR1 := Lib.hid (below_at hb (XR0.out)); have XO1 := Lib.hid (below_at hb (XO0.out))
  have z1 := heap_lt XO1.out; have y1 := hb.size; simp only [szA, szS] at y1
  have O2_1 := Lib.hid (ho.mono (base' := w.heap.size + 3) (by simp only [szA, szS]; omega)); obtain ⟨ad2, cp2, rfl⟩ := ho.form; clear ho hb
  obtain ⟨q1c0, q1c1, q1c2, q1f0, q1f1, q1f2⟩ := box3 XP1.out; obtain ⟨s1c0, s1c1, s1c2, s1f0, s1f1, s1f2⟩ := box3 XO1.out; obtain ⟨t1c0, t1c1, t1c2, t1f0, t1f1, t1f2⟩ := box3 XR1.out; have l1 := heap_lt XP1.out; have m1 := heap_lt XR1.out
  go_wp2
  refine bodyPost_ret (v := .agg #[.int .i64 c.free, .int .i64 c.limit, .slice ad2 c.q.length cp2]) (by simp [results, Try.results43, go_sem, t1c0, t1c1, t1c2, m1, z1]) rfl ?_
  have B9 := Lib.hid (below_setAt (below_setAt (below_setAt (below_setAt (B1.out) (w.heap.size + 2) 2 (by omega) (.slice ad2 c.q.length cp2)) (w.heap.size + 1) 0 (by omega) (.int .i64 c.free)) (w.heap.size + 1) 1 (by omega) (.int .i64 c.limit)) (w.heap.size + 1) 2 (by omega) (.slice ad2 c.q.length cp2))
  have O2_9 := Lib.hid (Own.setAt (Own.setAt (Own.setAt (Own.setAt (O2_1.out) (w.heap.size + 2) 2 (by omega) (.slice ad2 c.q.length cp2)) (w.heap.size + 1) 0 (by omega) (.int .i64 c.free)) (w.heap.size + 1) 1 (by omega) (.int .i64 c.limit)) (w.heap.size + 1) 2 (by omega) (.slice ad2 c.q.length cp2))
  exact ⟨_, rfl, ⟨_, _, rfl, O2_9.out.mono (by omega), O2_9.out.hi⟩, B9.out⟩
set_option maxHeartbeats 3200000 in
theorem eqSem_calls (v1 v2 : Value) (c d : SemD) (w : World) (h1 : SemRow w v1 c) (h2 : SemRow w v2 d) :
    Calls Try.prog 44 #[v1, v2] w fun e w' => e = .returned (.bool (decide (c = d))) ∧ Below w.heap.size w w' := by
  obtain ⟨a2, p2, rfl, r2⟩ := h1
  obtain ⟨b2, q2, rfl, s2⟩ := h2
  have R2 := Lib.hid r2; clear r2; have S2 := Lib.hid s2; clear s2
  have hb0 : Below w.heap.size w ((w.alloc (.cells #[.int .i64 c.free, .int .i64 c.limit, .slice a2 c.q.length p2] 48)).alloc (.cells #[.int .i64 d.free, .int .i64 d.limit, .slice b2 d.q.length q2] 48)) := ((Below.refl _ _).alloc (Nat.le_refl _) _).alloc (by simp) _
  have B0 := Lib.hid hb0; clear hb0
  have X0 := Lib.hid (heap_up (B := .cells #[.int .i64 d.free, .int .i64 d.limit, .slice b2 d.q.length q2] 48) (heap_at w (.cells #[.int .i64 c.free, .int .i64 c.limit, .slice a2 c.q.length p2] 48)))
  have Y0 := Lib.hid (heap_at1 w (.cells #[.int .i64 c.free, .int .i64 c.limit, .slice a2 c.q.length p2] 48) (.cells #[.int .i64 d.free, .int .i64 d.limit, .slice b2 d.q.length q2] 48))
  by_cases g0 : c.free = d.free
  · have d0 : (c.free != d.free) = false := by simpa using g0
    have G0 := Lib.hid g0; clear g0
    by_cases g1 : c.limit = d.limit
    · have d1 : (c.limit != d.limit) = false := by simpa using g1
      have G1 := Lib.hid g1; clear g1
      go_enter Try.func44, Try.ntmps44
      go_wp2_with (fail)
      refine (eqWaiterS_calls _ _ c.q d.q _ (Row.below R2.out B0.out) (Row.below S2.out B0.out)).mono ?_
      rintro e w1 ⟨rfl, hb⟩
      have B1 := Lib.hid (B0.out.trans (hb.mono B0.out.size)); have X1 := Lib.hid (below_at hb X0.out); have Y1 := Lib.hid (below_at hb Y0.out); clear hb
      obtain ⟨x1c0, x1c1, x1c2, x1f0, x1f1, x1f2⟩ := box3 X1.out; obtain ⟨y1c0, y1c1, y1c2, y1f0, y1f1, y1f2⟩ := box3 Y1.out; have l1 := heap_lt X1.out; have m1 := heap_lt Y1.out
      by_cases g2 : c.q = d.q
      · rw [decide_eq_true g2]
        have G2 := Lib.hid g2; clear g2
        have hcd : c = d := by cases c; cases d; simp only [SemD.mk.injEq]; exact ⟨G0.out, G1.out, G2.out⟩
        have HC := Lib.hid hcd; clear hcd
        go_wp2
        go_ret
        exact ⟨ret_bool (decide_eq_true HC.out).symm, B1.out⟩
      · rw [decide_eq_false g2]
        go_wp2
        go_ret
        exact ⟨ret_bool (decide_eq_false fun e => g2 (by rw [e])).symm, B1.out⟩
    · have d1 : (c.limit != d.limit) = true := by simpa using g1
      go_enter Try.func44, Try.ntmps44
      go_wp2
      go_ret
      exact ⟨ret_bool (decide_eq_false fun e => g1 (by rw [e])).symm, B0.out⟩
  · have d0 : (c.free != d.free) = true := by simpa using g0
    go_enter Try.func44, Try.ntmps44
    go_wp2
    go_ret
    exact ⟨ret_bool (decide_eq_false fun e => g0 (by rw [e])).symm, B0.out⟩
def marksSem (q : Int) (c : SemD) : SemD := ⟨c.free, c.limit, marksP (q) c.q.length⟩
theorem marksSem_len {q : Int} {c : SemD} : (marksSem q c).q.length = c.q.length := marksP_len _ _
set_option maxHeartbeats 3200000 in
theorem markSem_calls (lo hi : Nat) (v : Value) (c : SemD) (q : Int) (w : World) (h : SemOwn lo hi w v c) (hn : c.q.length ≤ 1048576) (h0 : 0 ≤ q) (h1 : q ≤ 4194304) :
    Calls Try.prog 46 #[v, .int .i64 q] w fun e w' => e = .returned (.int .i64 (q + 2 * (c.q.length : Int))) ∧ SemOwn lo hi w' v (marksSem q c) ∧ Span lo hi w w' ∧ Touch (aggBlocks v) w w' := by
  obtain ⟨a2, p2, rfl, h2, b2⟩ := h
  have O2_0 := Lib.hid (Own.alloc h2 (.cells #[.int .i64 c.free, .int .i64 c.limit, .slice a2 c.q.length p2] 48)); clear h2; have H2 := Lib.hid b2; clear b2
  have T0 : Hid (Touch (aggBlocks (.agg #[.int .i64 c.free, .int .i64 c.limit, .slice a2 c.q.length p2])) w (w.alloc (.cells #[.int .i64 c.free, .int .i64 c.limit, .slice a2 c.q.length p2] 48))) := Touch.of_below ((Below.refl _ _).alloc (Nat.le_refl _) _)
  have X0 := Lib.hid (heap_at w (.cells #[.int .i64 c.free, .int .i64 c.limit, .slice a2 c.q.length p2] 48))
  have G0 : Hid (Span lo hi w (w.alloc (.cells #[.int .i64 c.free, .int .i64 c.limit, .slice a2 c.q.length p2] 48))) := Span.of_below ((Below.refl _ _).alloc (Nat.le_refl _) _)
  go_enter Try.func46, Try.ntmps46
  go_wp2_with (fail)
  refine (markWaiterS_calls lo _ c.q (q) _ O2_0.out (by omega) (by omega) (by omega)).mono ?_
  rintro e w1 ⟨rfl, ho, hg⟩
  have X1 := Lib.hid (grow_at hg X0.out (O2_0.out.ne X0.out (by decide))); have G1 := Lib.hid (G0.out.trans (Span.of_grown hg (fun g e => ⟨(O2_0.out.block g e).1, H2.out g e⟩))); have T1 := Lib.hid (T0.out.step hg (by simp [aggBlocks]))
  have O2_1 := Lib.hid ho
  clear ho hg; obtain ⟨x1c0, x1c1, x1c2, x1f0, x1f1, x1f2⟩ := box3 X1.out; have l1 := heap_lt X1.out
  go_wp2
  go_ret
  refine ⟨rfl, ⟨a2, p2, ?_, ?_, ?_⟩, G1.out, T1.out⟩
  · simp only [marksSem, marksP_len]
  · simp only [marksSem, marksP_len]; exact O2_1.out
  · simp only [marksSem, marksP_len]; exact H2.out
set_option maxHeartbeats 3200000 in
theorem heldSem_calls (v : Value) (c : SemD) (q : Int) (w : World) (h : SemRow w v (marksSem q c)) (hn : c.q.length ≤ 1048576) (h0 : 0 ≤ q) (h1 : q ≤ 4194304) :
    Calls Try.prog 48 #[v, .int .i64 q] w fun e w' => e = .returned (.int .i64 (q + 2 * (c.q.length : Int))) ∧ Below w.heap.size w w' := by
  obtain ⟨a2, p2, rfl, r2⟩ := h
  simp only [marksSem, marksP_len] at r2 ⊢
  have R2 := Lib.hid r2; clear r2
  have hb0 : Below w.heap.size w (w.alloc (.cells #[.int .i64 c.free, .int .i64 c.limit, .slice a2 c.q.length p2] 48)) := (Below.refl _ _).alloc (Nat.le_refl _) _
  have B0 := Lib.hid hb0; clear hb0
  have X0 := Lib.hid (heap_at w (.cells #[.int .i64 c.free, .int .i64 c.limit, .slice a2 c.q.length p2] 48))
  go_enter Try.func48, Try.ntmps48
  go_wp2_with (fail)
  refine (heldWaiterS_calls _ c.q.length (q) _ (Row.below R2.out B0.out) (by omega) (by omega) (by omega)).mono ?_
  rintro e w1 ⟨rfl, hb⟩
  have B1 := Lib.hid (B0.out.trans (hb.mono B0.out.size)); have X1 := Lib.hid (below_at hb X0.out); clear hb; obtain ⟨x1c0, x1c1, x1c2, x1f0, x1f1, x1f2⟩ := box3 X1.out; have l1 := heap_lt X1.out
  go_wp2
  go_ret
  exact ⟨rfl, B1.out⟩
end Go.Proofs.Ytmmkbiljjhigfaa
