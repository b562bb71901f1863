/- The struct Lock: its plain twin, what reads as it, the exact laws' helpers on it (made by gen_struct.py). -/
import Derived.Test.YtbnfhnfnbhigoaaDoorSpan
import Derived.Test.YtbnfhnfnbhigoaaDoorExI
import Derived.Test.YtbnfhnfnbhigoaaDoorElWant
namespace Go.Proofs.YtbnfhnfnbhigoaaDoor
open Go.RowKit
set_option linter.unusedSimpArgs false
set_option linter.unusedVariables false
structure LockD where
  readers : List Int
  writer : Int
  q : List (Int × Bool)
  deriving DecidableEq
def LockD.zero : LockD := ⟨[], 0, []⟩
/-- In w the value v reads as c. -/
def LockRow (w : World) (v : Value) (c : LockD) : Prop := ∃ a0 p0 a2 p2, v = .agg #[.slice a0 c.readers.length p0, .int .i64 c.writer, .slice a2 c.q.length p2] ∧ IRow w (.slice a0 c.readers.length p0) c.readers ∧ WRow w (.slice a2 c.q.length p2) c.q
theorem LockRow.below {w w' : World} {v : Value} {c : LockD} (h : LockRow w v c) (hb : Below w.heap.size w w') : LockRow w' v c := by
  obtain ⟨a0, p0, a2, p2, rfl, h0, h2⟩ := h
  exact ⟨_, _, _, _, rfl, Row.below h0 hb, Row.below h2 hb⟩
/-- .. and its slices are the call's own: their blocks lie from lo on and below hi. -/
def LockOwn (lo hi : Nat) (w : World) (v : Value) (c : LockD) : Prop := ∃ a0 p0 a2 p2, v = .agg #[.slice a0 c.readers.length p0, .int .i64 c.writer, .slice a2 c.q.length p2] ∧ Own lo 3 1 encI w (.slice a0 c.readers.length p0) c.readers ∧ (∀ g, (Value.slice a0 c.readers.length p0).ownBlock = some g → g < hi) ∧ Own lo 45 2 encW w (.slice a2 c.q.length p2) c.q ∧ (∀ g, (Value.slice a2 c.q.length p2).ownBlock = some g → g < hi)
theorem LockOwn.row {lo hi : Nat} {w : World} {v : Value} {c : LockD} (h : LockOwn lo hi w v c) : LockRow w v c := by
  obtain ⟨a0, p0, a2, p2, rfl, h0, b0, h2, b2⟩ := h
  exact ⟨_, _, _, _, rfl, h0.row encI_len, h2.row encW_len⟩
theorem LockOwn.kept {lo hi : Nat} {w w' : World} {v : Value} {c : LockD} (h : LockOwn lo hi w v c) (hb : Below w.heap.size w w') : LockOwn lo hi w' v c := by
  obtain ⟨a0, p0, a2, p2, rfl, h0, b0, h2, b2⟩ := h
  exact ⟨_, _, _, _, rfl, h0.kept hb, b0, h2.kept hb, b2⟩
theorem LockOwn.span {lo hi l r : Nat} {w w' : World} {v : Value} {c : LockD} (h : LockOwn lo hi w v c) (hs : Span l r w w') (ho : hi ≤ l ∨ r ≤ lo) : LockOwn lo hi w' v c := by
  obtain ⟨a0, p0, a2, p2, rfl, h0, b0, h2, b2⟩ := h
  exact ⟨_, _, _, _, rfl, h0.span hs (fun g e => by have := b0 g e; have := (h0.block g e).1; omega), b0, h2.span hs (fun g e => by have := b2 g e; have := (h2.block g e).1; omega), b2⟩
theorem LockOwn.mono {lo hi lo' hi' : Nat} {w : World} {v : Value} {c : LockD} (h : LockOwn lo hi w v c) (hl : lo' ≤ lo) (hh : hi ≤ hi') : LockOwn lo' hi' w v c := by
  obtain ⟨a0, p0, a2, p2, rfl, h0, b0, h2, b2⟩ := h
  exact ⟨_, _, _, _, rfl, h0.mono hl, fun g e => Nat.lt_of_lt_of_le (b0 g e) hh, h2.mono hl, fun g e => Nat.lt_of_lt_of_le (b2 g e) hh⟩
theorem LockOwn.alloc {lo hi : Nat} {w : World} {v : Value} {c : LockD} (h : LockOwn lo hi w v c) (o : Obj) : LockOwn lo hi (w.alloc o) v c := h.kept ((Below.refl _ _).alloc (Nat.le_refl _) o)
theorem LockOwn.drew {lo hi : Nat} {w : World} {v : Value} {c : LockD} (h : LockOwn lo hi w v c) : LockOwn lo hi w.drew v c := h
theorem LockOwn.grownL {lo hi : Nat} {w w' : World} {v u : Value} {c : LockD} (h : LockOwn lo hi w v c) (hg : w.grownBy w' u.ownBlock) (hf : Free u v) : LockOwn lo hi w' v c := by
  obtain ⟨a0, p0, a2, p2, rfl, h0, b0, h2, b2⟩ := h
  have e0 : (Value.slice a0 c.readers.length p0).ownBlock = none ∨ (Value.slice a0 c.readers.length p0).ownBlock ≠ u.ownBlock := by
    cases hu : u.ownBlock with
    | none => cases hv : (Value.slice a0 c.readers.length p0).ownBlock with
      | none => exact .inl rfl
      | some g => exact .inr (fun e => by cases e)
    | some g => exact .inr fun e => hf g hu (by simp only [aggBlocks, List.map_cons, List.mem_cons]; simp [e])
  have e2 : (Value.slice a2 c.q.length p2).ownBlock = none ∨ (Value.slice a2 c.q.length p2).ownBlock ≠ u.ownBlock := by
    cases hu : u.ownBlock with
    | none => cases hv : (Value.slice a2 c.q.length p2).ownBlock with
      | none => exact .inl rfl
      | some g => exact .inr (fun e => by cases e)
    | some g => exact .inr fun e => hf g hu (by simp only [aggBlocks, List.map_cons, List.mem_cons]; simp [e])
  exact ⟨_, _, _, _, rfl, h0.growns hg e0, b0, h2.growns hg e2, b2⟩
theorem szLock_calls (v : Value) (c : LockD) (left : Int) (w : World) (h : LockRow w v c) (h0 : 0 ≤ left) (h1 : left ≤ 1048576) :
    Calls Tryd.prog 7 #[v, .int .i64 left] w fun e w' => e = .returned (.int .i64 (szF left (c.readers.length + c.q.length))) ∧ Below w.heap.size w w' := by
  obtain ⟨a0, p0, a2, p2, rfl, r0, r2⟩ := h
  have n0 : c.readers.length ≤ 9223372036854775807 := by obtain ⟨_, _, _, h2, h3, _⟩ := r0; omega
  have n2 : c.q.length ≤ 9223372036854775807 := by obtain ⟨_, _, _, h2, h3, _⟩ := r2; omega
  clear r0
  clear r2
  have hb : Below w.heap.size w (w.alloc (.cells #[.slice a0 c.readers.length p0, .int .i64 c.writer, .slice a2 c.q.length p2] 25)) := (Below.refl _ _).alloc (Nat.le_refl _) _
  have HB := Lib.hid hb; clear hb
  go_enter Tryd.func7, Tryd.ntmps7
  go_wp2_with (fail)
  refine (szIntS_calls a0 c.readers.length p0 (left) _ n0 (by omega) (by omega)).mono ?_
  rintro e w' ⟨rfl, rfl⟩
  by_cases g0 : (c.readers.length : Int) ≤ left
  · rw [szF_pos g0]
    go_wp2_with (fail)
    refine (szWantS_calls a2 c.q.length p2 (left - (c.readers.length : Int)) _ n2 (by omega) (by omega)).mono ?_
    rintro e w' ⟨rfl, rfl⟩
    by_cases g2 : (c.q.length : Int) ≤ left - (c.readers.length : Int)
    · rw [szF_pos g2]
      go_wp2
      go_ret
      exact ⟨ret_int (by rw [szF_pos (by omega)] <;> omega), HB.out⟩
    · rw [szF_neg g2]
      go_wp2
      go_ret
      exact ⟨ret_int (by rw [szF_neg (by omega)]), HB.out⟩
  · rw [szF_neg g0]
    go_wp2
    go_ret
    exact ⟨ret_int (by rw [szF_neg (by omega)]), HB.out⟩
set_option maxHeartbeats 3200000 in
theorem toLock_calls (v : Value) (c : LockD) (w : World) (h : LockRow w v c) (hn : c.readers.length + c.q.length ≤ 1048576) :
    Calls Tryd.prog 9 #[v] w fun e w' => ∃ v', e = .returned v' ∧ LockOwn w.heap.size w'.heap.size w' v' c ∧ Below w.heap.size w w' := by
  obtain ⟨a0, p0, a2, p2, rfl, r0, r2⟩ := h
  have R0 := Lib.hid r0; clear r0
  have R2 := Lib.hid r2; clear r2
  go_enter Tryd.func9, Tryd.ntmps9
  go_wp2_with (fail)
  have hb0 : Below w.heap.size w (((w.alloc (.cells #[.slice a0 c.readers.length p0, .int .i64 c.writer, .slice a2 c.q.length p2] 25)).alloc (.cells #[.slice none 0 0, .int .i64 0, .slice none 0 0] 30)).alloc (.cells #[.slice none 0 0, .int .i64 0, .slice none 0 0] 30)) := (((Below.refl _ _).alloc (Nat.le_refl _) _).alloc (by simp) _).alloc (by simp only [szA]; omega) _
  have B0 := Lib.hid hb0; clear hb0
  have XP0 := Lib.hid (heap_up (B := .cells #[.slice none 0 0, .int .i64 0, .slice none 0 0] 30) (heap_up (B := .cells #[.slice none 0 0, .int .i64 0, .slice none 0 0] 30) (heap_at w (.cells #[.slice a0 c.readers.length p0, .int .i64 c.writer, .slice a2 c.q.length p2] 25))))
  have XR0 := Lib.hid (heap_up (B := .cells #[.slice none 0 0, .int .i64 0, .slice none 0 0] 30) (heap_at1 w (.cells #[.slice a0 c.readers.length p0, .int .i64 c.writer, .slice a2 c.q.length p2] 25) (.cells #[.slice none 0 0, .int .i64 0, .slice none 0 0] 30)))
  have XO0 := Lib.hid (heap_at2 w (.cells #[.slice a0 c.readers.length p0, .int .i64 c.writer, .slice a2 c.q.length p2] 25) (.cells #[.slice none 0 0, .int .i64 0, .slice none 0 0] 30) (.cells #[.slice none 0 0, .int .i64 0, .slice none 0 0] 30))
  refine (toIntS_calls _ c.readers _ (Row.below R0.out B0.out) (by omega)).mono ?_
  rintro e w1 ⟨v0, rfl, ho, hb⟩
  have B1 := Lib.hid ((B0.out).trans (hb.mono (B0.out).size)); have XP1 := Lib.hid (below_at hb (XP0.out)); have XR1 := Lib.hid (below_at hb (XR0.out)); have XO1 := Lib.hid (below_at hb (XO0.out))
  have z1 := heap_lt XO1.out; have y1 := hb.size; simp only [szA, szS] at y1
  have O0_1 := Lib.hid (ho.mono (base' := w.heap.size + 3) (by simp only [szA, szS]; omega)); obtain ⟨ad0, cp0, rfl⟩ := ho.form; clear ho hb
  obtain ⟨q1c0, q1c1, q1c2, q1f0, q1f1, q1f2⟩ := box3 XP1.out; obtain ⟨s1c0, s1c1, s1c2, s1f0, s1f1, s1f2⟩ := box3 XO1.out; obtain ⟨t1c0, t1c1, t1c2, t1f0, t1f1, t1f2⟩ := box3 XR1.out; have l1 := heap_lt XP1.out; have m1 := heap_lt XR1.out
  go_wp2_with (fail)
  have B1' := Lib.hid (below_setAt (below_setAt (B1.out) (w.heap.size + 2) 0 (by omega) (.slice ad0 c.readers.length cp0)) (w.heap.size + 2) 1 (by omega) (.int .i64 c.writer))
  have XP1' := Lib.hid (set_off (a := ⟨w.heap.size + 2, 1, none⟩) (set_off (a := ⟨w.heap.size + 2, 0, none⟩) (XP1.out) (by simp) (.slice ad0 c.readers.length cp0)) (by simp) (.int .i64 c.writer))
  have XR1' := Lib.hid (set_off (a := ⟨w.heap.size + 2, 1, none⟩) (set_off (a := ⟨w.heap.size + 2, 0, none⟩) (XR1.out) (by simp) (.slice ad0 c.readers.length cp0)) (by simp) (.int .i64 c.writer))
  have XO1' := Lib.hid (set_at (a := ⟨w.heap.size + 2, 1, none⟩) (set_at (a := ⟨w.heap.size + 2, 0, none⟩) (XO1.out) rfl rfl (.slice ad0 c.readers.length cp0)) rfl rfl (.int .i64 c.writer))
  have O0_1' := Lib.hid (Own.setAt (Own.setAt (O0_1.out) (w.heap.size + 2) 0 (by omega) (.slice ad0 c.readers.length cp0)) (w.heap.size + 2) 1 (by omega) (.int .i64 c.writer))
  refine (toWantS_calls _ c.q _ (Row.below R2.out B1'.out) (by omega)).mono ?_
  rintro e w2 ⟨v2, rfl, ho, hb⟩
  have B2 := Lib.hid ((B1'.out).trans (hb.mono (B1'.out).size)); have XP2 := Lib.hid (below_at hb (XP1'.out)); have XR2 := Lib.hid (below_at hb (XR1'.out)); have XO2 := Lib.hid (below_at hb (XO1'.out))
  have z2 := heap_lt XO2.out; have y2 := hb.size; simp only [szA, szS] at y2
  have O0_2 := Lib.hid ((O0_1'.out).kept hb); have A02 := Lib.hid (Own.later_apart (O0_1'.out) ho (Nat.le_refl _)).symm
  have O2_2 := Lib.hid (ho.mono (base' := w1.heap.size) (by simp only [szA, szS]; omega)); obtain ⟨ad2, cp2, rfl⟩ := ho.form; clear ho hb
  obtain ⟨q2c0, q2c1, q2c2, q2f0, q2f1, q2f2⟩ := box3 XP2.out; obtain ⟨s2c0, s2c1, s2c2, s2f0, s2f1, s2f2⟩ := box3 XO2.out; obtain ⟨t2c0, t2c1, t2c2, t2f0, t2f1, t2f2⟩ := box3 XR2.out; have l2 := heap_lt XP2.out; have m2 := heap_lt XR2.out
  clear q1c0 q1c1 q1c2 q1f0 q1f1 q1f2 s1c0 s1c1 s1c2 s1f0 s1f1 s1f2 t1c0 t1c1 t1c2 t1f0 t1f1 t1f2
  go_wp2
  refine bodyPost_ret (v := .agg #[.slice ad0 c.readers.length cp0, .int .i64 c.writer, .slice ad2 c.q.length cp2]) (by simp [results, Tryd.results9, go_sem, t2c0, t2c1, t2c2, m2, z2]) rfl ?_
  have B9 := Lib.hid (below_setAt (below_setAt (below_setAt (below_setAt (B2.out) (w.heap.size + 2) 2 (by omega) (.slice ad2 c.q.length cp2)) (w.heap.size + 1) 0 (by omega) (.slice ad0 c.readers.length cp0)) (w.heap.size + 1) 1 (by omega) (.int .i64 c.writer)) (w.heap.size + 1) 2 (by omega) (.slice ad2 c.q.length cp2))
  have O0_9 := Lib.hid (Own.setAt (Own.setAt (Own.setAt (Own.setAt (O0_2.out) (w.heap.size + 2) 2 (by omega) (.slice ad2 c.q.length cp2)) (w.heap.size + 1) 0 (by omega) (.slice ad0 c.readers.length cp0)) (w.heap.size + 1) 1 (by omega) (.int .i64 c.writer)) (w.heap.size + 1) 2 (by omega) (.slice ad2 c.q.length cp2))
  have O2_9 := Lib.hid (Own.setAt (Own.setAt (Own.setAt (Own.setAt (O2_2.out) (w.heap.size + 2) 2 (by omega) (.slice ad2 c.q.length cp2)) (w.heap.size + 1) 0 (by omega) (.slice ad0 c.readers.length cp0)) (w.heap.size + 1) 1 (by omega) (.int .i64 c.writer)) (w.heap.size + 1) 2 (by omega) (.slice ad2 c.q.length cp2))
  exact ⟨_, rfl, ⟨_, _, _, _, rfl, O0_9.out.mono (by omega), O0_9.out.hi, O2_9.out.mono (by omega), O2_9.out.hi⟩, B9.out⟩
set_option maxHeartbeats 3200000 in
theorem eqLock_calls (v1 v2 : Value) (c d : LockD) (w : World) (h1 : LockRow w v1 c) (h2 : LockRow w v2 d) :
    Calls Tryd.prog 11 #[v1, v2] w fun e w' => e = .returned (.bool (decide (c = d))) ∧ Below w.heap.size w w' := by
  obtain ⟨a0, p0, a2, p2, rfl, r0, r2⟩ := h1
  obtain ⟨b0, q0, b2, q2, rfl, s0, s2⟩ := h2
  have R0 := Lib.hid r0; clear r0; have S0 := Lib.hid s0; clear s0
  have R2 := Lib.hid r2; clear r2; have S2 := Lib.hid s2; clear s2
  have hb0 : Below w.heap.size w ((w.alloc (.cells #[.slice a0 c.readers.length p0, .int .i64 c.writer, .slice a2 c.q.length p2] 30)).alloc (.cells #[.slice b0 d.readers.length q0, .int .i64 d.writer, .slice b2 d.q.length q2] 30)) := ((Below.refl _ _).alloc (Nat.le_refl _) _).alloc (by simp) _
  have B0 := Lib.hid hb0; clear hb0
  have X0 := Lib.hid (heap_up (B := .cells #[.slice b0 d.readers.length q0, .int .i64 d.writer, .slice b2 d.q.length q2] 30) (heap_at w (.cells #[.slice a0 c.readers.length p0, .int .i64 c.writer, .slice a2 c.q.length p2] 30)))
  have Y0 := Lib.hid (heap_at1 w (.cells #[.slice a0 c.readers.length p0, .int .i64 c.writer, .slice a2 c.q.length p2] 30) (.cells #[.slice b0 d.readers.length q0, .int .i64 d.writer, .slice b2 d.q.length q2] 30))
  go_enter Tryd.func11, Tryd.ntmps11
  go_wp2_with (fail)
  refine (eqIntS_calls _ _ c.readers d.readers _ (Row.below R0.out B0.out) (Row.below S0.out B0.out)).mono ?_
  rintro e w1 ⟨rfl, hb⟩
  have B1 := Lib.hid (B0.out.trans (hb.mono B0.out.size)); have X1 := Lib.hid (below_at hb X0.out); have Y1 := Lib.hid (below_at hb Y0.out); clear hb
  obtain ⟨x1c0, x1c1, x1c2, x1f0, x1f1, x1f2⟩ := box3 X1.out; obtain ⟨y1c0, y1c1, y1c2, y1f0, y1f1, y1f2⟩ := box3 Y1.out; have l1 := heap_lt X1.out; have m1 := heap_lt Y1.out
  by_cases g0 : c.readers = d.readers
  · rw [decide_eq_true g0]
    have G0 := Lib.hid g0; clear g0
    by_cases g1 : c.writer = d.writer
    · have d1 : (c.writer != d.writer) = false := by simpa using g1
      have G1 := Lib.hid g1; clear g1
      go_wp2_with (fail)
      refine (eqWantS_calls _ _ c.q d.q _ (Row.below R2.out B1.out) (Row.below S2.out B1.out)).mono ?_
      rintro e w2 ⟨rfl, hb⟩
      have B2 := Lib.hid (B1.out.trans (hb.mono B1.out.size)); have X2 := Lib.hid (below_at hb X1.out); have Y2 := Lib.hid (below_at hb Y1.out); clear hb
      obtain ⟨x2c0, x2c1, x2c2, x2f0, x2f1, x2f2⟩ := box3 X2.out; obtain ⟨y2c0, y2c1, y2c2, y2f0, y2f1, y2f2⟩ := box3 Y2.out; have l2 := heap_lt X2.out; have m2 := heap_lt Y2.out
      by_cases g2 : c.q = d.q
      · rw [decide_eq_true g2]
        have G2 := Lib.hid g2; clear g2
        have hcd : c = d := by cases c; cases d; simp only [LockD.mk.injEq]; exact ⟨G0.out, G1.out, G2.out⟩
        have HC := Lib.hid hcd; clear hcd
        go_wp2
        go_ret
        exact ⟨ret_bool (decide_eq_true HC.out).symm, B2.out⟩
      · rw [decide_eq_false g2]
        go_wp2
        go_ret
        exact ⟨ret_bool (decide_eq_false fun e => g2 (by rw [e])).symm, B2.out⟩
    · have d1 : (c.writer != d.writer) = true := by simpa using g1
      go_wp2
      go_ret
      exact ⟨ret_bool (decide_eq_false fun e => g1 (by rw [e])).symm, B1.out⟩
  · rw [decide_eq_false g0]
    go_wp2
    go_ret
    exact ⟨ret_bool (decide_eq_false fun e => g0 (by rw [e])).symm, B1.out⟩
end Go.Proofs.YtbnfhnfnbhigoaaDoor
