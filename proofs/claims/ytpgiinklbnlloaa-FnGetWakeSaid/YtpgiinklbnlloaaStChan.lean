/- The struct Chan: its plain twin, what reads as it, the exact laws' helpers on it (made by gen_struct.py). -/
import Derived.Test.YtpgiinklbnlloaaSpan
import Derived.Test.YtpgiinklbnlloaaExI
import Derived.Test.YtpgiinklbnlloaaElLetter
namespace Go.Proofs.Ytpgiinklbnlloaa
open Go.RowKit
set_option linter.unusedSimpArgs false
set_option linter.unusedVariables false
structure ChanD where
  room : Int
  items : List Int
  senders : List (Int × Int)
  getters : List Int
  closed : Bool
  deriving DecidableEq
def ChanD.zero : ChanD := ⟨0, [], [], [], false⟩
/-- In w the value v reads as c. -/
def ChanRow (w : World) (v : Value) (c : ChanD) : Prop := ∃ a1 p1 a2 p2 a3 p3, v = .agg #[.int .i64 c.room, .slice a1 c.items.length p1, .slice a2 c.senders.length p2, .slice a3 c.getters.length p3, .bool c.closed] ∧ IRow w (.slice a1 c.items.length p1) c.items ∧ PRow w (.slice a2 c.senders.length p2) c.senders ∧ IRow w (.slice a3 c.getters.length p3) c.getters
theorem ChanRow.below {w w' : World} {v : Value} {c : ChanD} (h : ChanRow w v c) (hb : Below w.heap.size w w') : ChanRow w' v c := by
  obtain ⟨a1, p1, a2, p2, a3, p3, rfl, h1, h2, h3⟩ := h
  exact ⟨_, _, _, _, _, _, rfl, Row.below h1 hb, Row.below h2 hb, Row.below h3 hb⟩
/-- .. and its slices are the call's own: their blocks lie from lo on and below hi. -/
def ChanOwn (lo hi : Nat) (w : World) (v : Value) (c : ChanD) : Prop := ∃ a1 p1 a2 p2 a3 p3, v = .agg #[.int .i64 c.room, .slice a1 c.items.length p1, .slice a2 c.senders.length p2, .slice a3 c.getters.length p3, .bool c.closed] ∧ Own lo 3 1 encI w (.slice a1 c.items.length p1) c.items ∧ (∀ g, (Value.slice a1 c.items.length p1).ownBlock = some g → g < hi) ∧ Own lo 58 2 encP w (.slice a2 c.senders.length p2) c.senders ∧ (∀ g, (Value.slice a2 c.senders.length p2).ownBlock = some g → g < hi) ∧ Own lo 3 1 encI w (.slice a3 c.getters.length p3) c.getters ∧ (∀ g, (Value.slice a3 c.getters.length p3).ownBlock = some g → g < hi) ∧ Apart (.slice a1 c.items.length p1) (.slice a3 c.getters.length p3)
theorem ChanOwn.row {lo hi : Nat} {w : World} {v : Value} {c : ChanD} (h : ChanOwn lo hi w v c) : ChanRow w v c := by
  obtain ⟨a1, p1, a2, p2, a3, p3, rfl, h1, b1, h2, b2, h3, b3, x13⟩ := h
  exact ⟨_, _, _, _, _, _, rfl, h1.row encI_len, h2.row encP_len, h3.row encI_len⟩
theorem ChanOwn.kept {lo hi : Nat} {w w' : World} {v : Value} {c : ChanD} (h : ChanOwn lo hi w v c) (hb : Below w.heap.size w w') : ChanOwn lo hi w' v c := by
  obtain ⟨a1, p1, a2, p2, a3, p3, rfl, h1, b1, h2, b2, h3, b3, x13⟩ := h
  exact ⟨_, _, _, _, _, _, rfl, h1.kept hb, b1, h2.kept hb, b2, h3.kept hb, b3, x13⟩
theorem ChanOwn.span {lo hi l r : Nat} {w w' : World} {v : Value} {c : ChanD} (h : ChanOwn lo hi w v c) (hs : Span l r w w') (ho : hi ≤ l ∨ r ≤ lo) : ChanOwn lo hi w' v c := by
  obtain ⟨a1, p1, a2, p2, a3, p3, rfl, h1, b1, h2, b2, h3, b3, x13⟩ := h
  exact ⟨_, _, _, _, _, _, rfl, h1.span hs (fun g e => by have := b1 g e; have := (h1.block g e).1; omega), b1, h2.span hs (fun g e => by have := b2 g e; have := (h2.block g e).1; omega), b2, h3.span hs (fun g e => by have := b3 g e; have := (h3.block g e).1; omega), b3, x13⟩
theorem ChanOwn.mono {lo hi lo' hi' : Nat} {w : World} {v : Value} {c : ChanD} (h : ChanOwn lo hi w v c) (hl : lo' ≤ lo) (hh : hi ≤ hi') : ChanOwn lo' hi' w v c := by
  obtain ⟨a1, p1, a2, p2, a3, p3, rfl, h1, b1, h2, b2, h3, b3, x13⟩ := h
  exact ⟨_, _, _, _, _, _, rfl, h1.mono hl, fun g e => Nat.lt_of_lt_of_le (b1 g e) hh, h2.mono hl, fun g e => Nat.lt_of_lt_of_le (b2 g e) hh, h3.mono hl, fun g e => Nat.lt_of_lt_of_le (b3 g e) hh, x13⟩
theorem ChanOwn.alloc {lo hi : Nat} {w : World} {v : Value} {c : ChanD} (h : ChanOwn lo hi w v c) (o : Obj) : ChanOwn lo hi (w.alloc o) v c := h.kept ((Below.refl _ _).alloc (Nat.le_refl _) o)
theorem ChanOwn.drew {lo hi : Nat} {w : World} {v : Value} {c : ChanD} (h : ChanOwn lo hi w v c) : ChanOwn lo hi w.drew v c := h
theorem ChanOwn.grownL {lo hi : Nat} {w w' : World} {v u : Value} {c : ChanD} (h : ChanOwn lo hi w v c) (hg : w.grownBy w' u.ownBlock) (hf : Free u v) : ChanOwn lo hi w' v c := by
  obtain ⟨a1, p1, a2, p2, a3, p3, rfl, h1, b1, h2, b2, h3, b3, x13⟩ := h
  have e1 : (Value.slice a1 c.items.length p1).ownBlock = none ∨ (Value.slice a1 c.items.length p1).ownBlock ≠ u.ownBlock := by
    cases hu : u.ownBlock with
    | none => cases hv : (Value.slice a1 c.items.length p1).ownBlock with
      | none => exact .inl rfl
      | some g => exact .inr (fun e => by cases e)
    | some g => exact .inr fun e => hf g hu (by simp only [aggBlocks, List.map_cons, List.mem_cons]; simp [e])
  have e2 : (Value.slice a2 c.senders.length p2).ownBlock = none ∨ (Value.slice a2 c.senders.length p2).ownBlock ≠ u.ownBlock := by
    cases hu : u.ownBlock with
    | none => cases hv : (Value.slice a2 c.senders.length p2).ownBlock with
      | none => exact .inl rfl
      | some g => exact .inr (fun e => by cases e)
    | some g => exact .inr fun e => hf g hu (by simp only [aggBlocks, List.map_cons, List.mem_cons]; simp [e])
  have e3 : (Value.slice a3 c.getters.length p3).ownBlock = none ∨ (Value.slice a3 c.getters.length p3).ownBlock ≠ u.ownBlock := by
    cases hu : u.ownBlock with
    | none => cases hv : (Value.slice a3 c.getters.length p3).ownBlock with
      | none => exact .inl rfl
      | some g => exact .inr (fun e => by cases e)
    | some g => exact .inr fun e => hf g hu (by simp only [aggBlocks, List.map_cons, List.mem_cons]; simp [e])
  exact ⟨_, _, _, _, _, _, rfl, h1.growns hg e1, b1, h2.growns hg e2, b2, h3.growns hg e3, b3, x13⟩
theorem szChan_calls (v : Value) (c : ChanD) (left : Int) (w : World) (h : ChanRow w v c) (h0 : 0 ≤ left) (h1 : left ≤ 1048576) :
    Calls Try.prog 23 #[v, .int .i64 left] w fun e w' => e = .returned (.int .i64 (szF left (c.items.length + c.senders.length + c.getters.length))) ∧ Below w.heap.size w w' := by
  obtain ⟨a1, p1, a2, p2, a3, p3, rfl, r1, r2, r3⟩ := h
  have n1 : c.items.length ≤ 9223372036854775807 := by obtain ⟨_, _, _, h2, h3, _⟩ := r1; omega
  have n2 : c.senders.length ≤ 9223372036854775807 := by obtain ⟨_, _, _, h2, h3, _⟩ := r2; omega
  have n3 : c.getters.length ≤ 9223372036854775807 := by obtain ⟨_, _, _, h2, h3, _⟩ := r3; omega
  clear r1
  clear r2
  clear r3
  have hb : Below w.heap.size w (w.alloc (.cells #[.int .i64 c.room, .slice a1 c.items.length p1, .slice a2 c.senders.length p2, .slice a3 c.getters.length p3, .bool c.closed] 39)) := (Below.refl _ _).alloc (Nat.le_refl _) _
  have HB := Lib.hid hb; clear hb
  go_enter Try.func23, Try.ntmps23
  go_wp2_with (fail)
  refine (szIntS_calls a1 c.items.length p1 (left) _ n1 (by omega) (by omega)).mono ?_
  rintro e w' ⟨rfl, rfl⟩
  by_cases g1 : (c.items.length : Int) ≤ left
  · rw [szF_pos g1]
    go_wp2_with (fail)
    refine (szLetterS_calls a2 c.senders.length p2 (left - (c.items.length : Int)) _ n2 (by omega) (by omega)).mono ?_
    rintro e w' ⟨rfl, rfl⟩
    by_cases g2 : (c.senders.length : Int) ≤ left - (c.items.length : Int)
    · rw [szF_pos g2]
      go_wp2_with (fail)
      refine (szIntS_calls a3 c.getters.length p3 (left - (c.items.length : Int) - (c.senders.length : Int)) _ n3 (by omega) (by omega)).mono ?_
      rintro e w' ⟨rfl, rfl⟩
      by_cases g3 : (c.getters.length : Int) ≤ left - (c.items.length : Int) - (c.senders.length : Int)
      · rw [szF_pos g3]
        go_wp2
        go_ret
        exact ⟨ret_int (by rw [szF_pos (by omega)] <;> omega), HB.out⟩
      · rw [szF_neg g3]
        go_wp2
        go_ret
        exact ⟨ret_int (by rw [szF_neg (by omega)]), HB.out⟩
    · rw [szF_neg g2]
      go_wp2
      go_ret
      exact ⟨ret_int (by rw [szF_neg (by omega)]), HB.out⟩
  · rw [szF_neg g1]
    go_wp2
    go_ret
    exact ⟨ret_int (by rw [szF_neg (by omega)]), HB.out⟩
set_option maxHeartbeats 3200000 in
theorem toChan_calls (v : Value) (c : ChanD) (w : World) (h : ChanRow w v c) (hn : c.items.length + c.senders.length + c.getters.length ≤ 1048576) :
    Calls Try.prog 25 #[v] w fun e w' => ∃ v', e = .returned v' ∧ ChanOwn w.heap.size w'.heap.size w' v' c ∧ Below w.heap.size w w' := by
  obtain ⟨a1, p1, a2, p2, a3, p3, rfl, r1, r2, r3⟩ := h
  have R1 := Lib.hid r1; clear r1
  have R2 := Lib.hid r2; clear r2
  have R3 := Lib.hid r3; clear r3
  go_enter Try.func25, Try.ntmps25
  go_wp2_with (fail)
  have hb0 : Below w.heap.size w (((w.alloc (.cells #[.int .i64 c.room, .slice a1 c.items.length p1, .slice a2 c.senders.length p2, .slice a3 c.getters.length p3, .bool c.closed] 39)).alloc (.cells #[.int .i64 0, .slice none 0 0, .slice none 0 0, .slice none 0 0, .bool false] 25)).alloc (.cells #[.int .i64 c.room, .slice none 0 0, .slice none 0 0, .slice none 0 0, .bool false] 25)) := (((Below.refl _ _).alloc (Nat.le_refl _) _).alloc (by simp) _).alloc (by simp only [szA]; omega) _
  have B0 := Lib.hid hb0; clear hb0
  have XP0 := Lib.hid (heap_up (B := .cells #[.int .i64 c.room, .slice none 0 0, .slice none 0 0, .slice none 0 0, .bool false] 25) (heap_up (B := .cells #[.int .i64 0, .slice none 0 0, .slice none 0 0, .slice none 0 0, .bool false] 25) (heap_at w (.cells #[.int .i64 c.room, .slice a1 c.items.length p1, .slice a2 c.senders.length p2, .slice a3 c.getters.length p3, .bool c.closed] 39))))
  have XR0 := Lib.hid (heap_up (B := .cells #[.int .i64 c.room, .slice none 0 0, .slice none 0 0, .slice none 0 0, .bool false] 25) (heap_at1 w (.cells #[.int .i64 c.room, .slice a1 c.items.length p1, .slice a2 c.senders.length p2, .slice a3 c.getters.length p3, .bool c.closed] 39) (.cells #[.int .i64 0, .slice none 0 0, .slice none 0 0, .slice none 0 0, .bool false] 25)))
  have XO0 := Lib.hid (heap_at2 w (.cells #[.int .i64 c.room, .slice a1 c.items.length p1, .slice a2 c.senders.length p2, .slice a3 c.getters.length p3, .bool c.closed] 39) (.cells #[.int .i64 0, .slice none 0 0, .slice none 0 0, .slice none 0 0, .bool false] 25) (.cells #[.int .i64 c.room, .slice none 0 0, .slice none 0 0, .slice none 0 0, .bool false] 25))
  refine (toIntS_calls _ c.items _ (Row.below R1.out B0.out) (by omega)).mono ?_
  rintro e w1 ⟨v1, rfl, ho, hb⟩
  have B1 := Lib.hid ((B0.out).trans (hb.mono (B0.out).size)); have XP1 := Lib.hid (below_at hb (XP0.out)); have XR1 := Lib.hid (below_at hb (XR0.out)); have XO1 := Lib.hid (below_at hb (XO0.out))
  have z1 := heap_lt XO1.out; have y1 := hb.size; simp only [szA, szS] at y1
  have O1_1 := Lib.hid (ho.mono (base' := w.heap.size + 3) (by simp only [szA, szS]; omega)); obtain ⟨ad1, cp1, rfl⟩ := ho.form; clear ho hb
  obtain ⟨q1c0, q1c1, q1c2, q1c3, q1c4, q1f0, q1f1, q1f2, q1f3, q1f4⟩ := box5 XP1.out; obtain ⟨s1c0, s1c1, s1c2, s1c3, s1c4, s1f0, s1f1, s1f2, s1f3, s1f4⟩ := box5 XO1.out; obtain ⟨t1c0, t1c1, t1c2, t1c3, t1c4, t1f0, t1f1, t1f2, t1f3, t1f4⟩ := box5 XR1.out; have l1 := heap_lt XP1.out; have m1 := heap_lt XR1.out
  go_wp2_with (fail)
  have B1' := Lib.hid (below_setAt (B1.out) (w.heap.size + 2) 1 (by omega) (.slice ad1 c.items.length cp1))
  have XP1' := Lib.hid (set_off (a := ⟨w.heap.size + 2, 1, none⟩) (XP1.out) (by simp) (.slice ad1 c.items.length cp1))
  have XR1' := Lib.hid (set_off (a := ⟨w.heap.size + 2, 1, none⟩) (XR1.out) (by simp) (.slice ad1 c.items.length cp1))
  have XO1' := Lib.hid (set_at (a := ⟨w.heap.size + 2, 1, none⟩) (XO1.out) rfl rfl (.slice ad1 c.items.length cp1))
  have O1_1' := Lib.hid (Own.setAt (O1_1.out) (w.heap.size + 2) 1 (by omega) (.slice ad1 c.items.length cp1))
  refine (toLetterS_calls _ c.senders _ (Row.below R2.out B1'.out) (by omega)).mono ?_
  rintro e w2 ⟨v2, rfl, ho, hb⟩
  have B2 := Lib.hid ((B1'.out).trans (hb.mono (B1'.out).size)); have XP2 := Lib.hid (below_at hb (XP1'.out)); have XR2 := Lib.hid (below_at hb (XR1'.out)); have XO2 := Lib.hid (below_at hb (XO1'.out))
  have z2 := heap_lt XO2.out; have y2 := hb.size; simp only [szA, szS] at y2
  have O1_2 := Lib.hid ((O1_1'.out).kept hb); have A12 := Lib.hid (Own.later_apart (O1_1'.out) ho (Nat.le_refl _)).symm
  have O2_2 := Lib.hid (ho.mono (base' := w1.heap.size) (by simp only [szA, szS]; omega)); obtain ⟨ad2, cp2, rfl⟩ := ho.form; clear ho hb
  obtain ⟨q2c0, q2c1, q2c2, q2c3, q2c4, q2f0, q2f1, q2f2, q2f3, q2f4⟩ := box5 XP2.out; obtain ⟨s2c0, s2c1, s2c2, s2c3, s2c4, s2f0, s2f1, s2f2, s2f3, s2f4⟩ := box5 XO2.out; obtain ⟨t2c0, t2c1, t2c2, t2c3, t2c4, t2f0, t2f1, t2f2, t2f3, t2f4⟩ := box5 XR2.out; have l2 := heap_lt XP2.out; have m2 := heap_lt XR2.out
  clear q1c0 q1c1 q1c2 q1c3 q1c4 q1f0 q1f1 q1f2 q1f3 q1f4 s1c0 s1c1 s1c2 s1c3 s1c4 s1f0 s1f1 s1f2 s1f3 s1f4 t1c0 t1c1 t1c2 t1c3 t1c4 t1f0 t1f1 t1f2 t1f3 t1f4
  go_wp2_with (fail)
  have B2' := Lib.hid (below_setAt (B2.out) (w.heap.size + 2) 2 (by omega) (.slice ad2 c.senders.length cp2))
  have XP2' := Lib.hid (set_off (a := ⟨w.heap.size + 2, 2, none⟩) (XP2.out) (by simp) (.slice ad2 c.senders.length cp2))
  have XR2' := Lib.hid (set_off (a := ⟨w.heap.size + 2, 2, none⟩) (XR2.out) (by simp) (.slice ad2 c.senders.length cp2))
  have XO2' := Lib.hid (set_at (a := ⟨w.heap.size + 2, 2, none⟩) (XO2.out) rfl rfl (.slice ad2 c.senders.length cp2))
  have O1_2' := Lib.hid (Own.setAt (O1_2.out) (w.heap.size + 2) 2 (by omega) (.slice ad2 c.senders.length cp2))
  have O2_2' := Lib.hid (Own.setAt (O2_2.out) (w.heap.size + 2) 2 (by omega) (.slice ad2 c.senders.length cp2))
  refine (toIntS_calls _ c.getters _ (Row.below R3.out B2'.out) (by omega)).mono ?_
  rintro e w3 ⟨v3, rfl, ho, hb⟩
  have B3 := Lib.hid ((B2'.out).trans (hb.mono (B2'.out).size)); have XP3 := Lib.hid (below_at hb (XP2'.out)); have XR3 := Lib.hid (below_at hb (XR2'.out)); have XO3 := Lib.hid (below_at hb (XO2'.out))
  have z3 := heap_lt XO3.out; have y3 := hb.size; simp only [szA, szS] at y3
  have O1_3 := Lib.hid ((O1_2'.out).kept hb); have A13 := Lib.hid (Own.later_apart (O1_2'.out) ho (Nat.le_refl _)).symm
  have O2_3 := Lib.hid ((O2_2'.out).kept hb); have A23 := Lib.hid (Own.later_apart (O2_2'.out) ho (Nat.le_refl _)).symm
  have O3_3 := Lib.hid (ho.mono (base' := w2.heap.size) (by simp only [szA, szS]; omega)); obtain ⟨ad3, cp3, rfl⟩ := ho.form; clear ho hb
  obtain ⟨q3c0, q3c1, q3c2, q3c3, q3c4, q3f0, q3f1, q3f2, q3f3, q3f4⟩ := box5 XP3.out; obtain ⟨s3c0, s3c1, s3c2, s3c3, s3c4, s3f0, s3f1, s3f2, s3f3, s3f4⟩ := box5 XO3.out; obtain ⟨t3c0, t3c1, t3c2, t3c3, t3c4, t3f0, t3f1, t3f2, t3f3, t3f4⟩ := box5 XR3.out; have l3 := heap_lt XP3.out; have m3 := heap_lt XR3.out
  clear q2c0 q2c1 q2c2 q2c3 q2c4 q2f0 q2f1 q2f2 q2f3 q2f4 s2c0 s2c1 s2c2 s2c3 s2c4 s2f0 s2f1 s2f2 s2f3 s2f4 t2c0 t2c1 t2c2 t2c3 t2c4 t2f0 t2f1 t2f2 t2f3 t2f4
  go_wp2
  refine bodyPost_ret (v := .agg #[.int .i64 c.room, .slice ad1 c.items.length cp1, .slice ad2 c.senders.length cp2, .slice ad3 c.getters.length cp3, .bool c.closed]) (by simp [results, Try.results25, go_sem, t3c0, t3c1, t3c2, t3c3, t3c4, m3, z3]) rfl ?_
  have B9 := Lib.hid (below_setAt (below_setAt (below_setAt (below_setAt (below_setAt (below_setAt (below_setAt (B3.out) (w.heap.size + 2) 3 (by omega) (.slice ad3 c.getters.length cp3)) (w.heap.size + 2) 4 (by omega) (.bool c.closed)) (w.heap.size + 1) 0 (by omega) (.int .i64 c.room)) (w.heap.size + 1) 1 (by omega) (.slice ad1 c.items.length cp1)) (w.heap.size + 1) 2 (by omega) (.slice ad2 c.senders.length cp2)) (w.heap.size + 1) 3 (by omega) (.slice ad3 c.getters.length cp3)) (w.heap.size + 1) 4 (by omega) (.bool c.closed))
  have O1_9 := Lib.hid (Own.setAt (Own.setAt (Own.setAt (Own.setAt (Own.setAt (Own.setAt (Own.setAt (O1_3.out) (w.heap.size + 2) 3 (by omega) (.slice ad3 c.getters.length cp3)) (w.heap.size + 2) 4 (by omega) (.bool c.closed)) (w.heap.size + 1) 0 (by omega) (.int .i64 c.room)) (w.heap.size + 1) 1 (by omega) (.slice ad1 c.items.length cp1)) (w.heap.size + 1) 2 (by omega) (.slice ad2 c.senders.length cp2)) (w.heap.size + 1) 3 (by omega) (.slice ad3 c.getters.length cp3)) (w.heap.size + 1) 4 (by omega) (.bool c.closed))
  have O2_9 := Lib.hid (Own.setAt (Own.setAt (Own.setAt (Own.setAt (Own.setAt (Own.setAt (Own.setAt (O2_3.out) (w.heap.size + 2) 3 (by omega) (.slice ad3 c.getters.length cp3)) (w.heap.size + 2) 4 (by omega) (.bool c.closed)) (w.heap.size + 1) 0 (by omega) (.int .i64 c.room)) (w.heap.size + 1) 1 (by omega) (.slice ad1 c.items.length cp1)) (w.heap.size + 1) 2 (by omega) (.slice ad2 c.senders.length cp2)) (w.heap.size + 1) 3 (by omega) (.slice ad3 c.getters.length cp3)) (w.heap.size + 1) 4 (by omega) (.bool c.closed))
  have O3_9 := Lib.hid (Own.setAt (Own.setAt (Own.setAt (Own.setAt (Own.setAt (Own.setAt (Own.setAt (O3_3.out) (w.heap.size + 2) 3 (by omega) (.slice ad3 c.getters.length cp3)) (w.heap.size + 2) 4 (by omega) (.bool c.closed)) (w.heap.size + 1) 0 (by omega) (.int .i64 c.room)) (w.heap.size + 1) 1 (by omega) (.slice ad1 c.items.length cp1)) (w.heap.size + 1) 2 (by omega) (.slice ad2 c.senders.length cp2)) (w.heap.size + 1) 3 (by omega) (.slice ad3 c.getters.length cp3)) (w.heap.size + 1) 4 (by omega) (.bool c.closed))
  exact ⟨_, rfl, ⟨_, _, _, _, _, _, rfl, O1_9.out.mono (by omega), O1_9.out.hi, O2_9.out.mono (by omega), O2_9.out.hi, O3_9.out.mono (by omega), O3_9.out.hi, A13.out⟩, B9.out⟩
set_option maxHeartbeats 3200000 in
theorem eqChan_calls (v1 v2 : Value) (c d : ChanD) (w : World) (h1 : ChanRow w v1 c) (h2 : ChanRow w v2 d) :
    Calls Try.prog 16 #[v1, v2] w fun e w' => e = .returned (.bool (decide (c = d))) ∧ Below w.heap.size w w' := by
  obtain ⟨a1, p1, a2, p2, a3, p3, rfl, r1, r2, r3⟩ := h1
  obtain ⟨b1, q1, b2, q2, b3, q3, rfl, s1, s2, s3⟩ := h2
  have R1 := Lib.hid r1; clear r1; have S1 := Lib.hid s1; clear s1
  have R2 := Lib.hid r2; clear r2; have S2 := Lib.hid s2; clear s2
  have R3 := Lib.hid r3; clear r3; have S3 := Lib.hid s3; clear s3
  have hb0 : Below w.heap.size w ((w.alloc (.cells #[.int .i64 c.room, .slice a1 c.items.length p1, .slice a2 c.senders.length p2, .slice a3 c.getters.length p3, .bool c.closed] 25)).alloc (.cells #[.int .i64 d.room, .slice b1 d.items.length q1, .slice b2 d.senders.length q2, .slice b3 d.getters.length q3, .bool d.closed] 25)) := ((Below.refl _ _).alloc (Nat.le_refl _) _).alloc (by simp) _
  have B0 := Lib.hid hb0; clear hb0
  have X0 := Lib.hid (heap_up (B := .cells #[.int .i64 d.room, .slice b1 d.items.length q1, .slice b2 d.senders.length q2, .slice b3 d.getters.length q3, .bool d.closed] 25) (heap_at w (.cells #[.int .i64 c.room, .slice a1 c.items.length p1, .slice a2 c.senders.length p2, .slice a3 c.getters.length p3, .bool c.closed] 25)))
  have Y0 := Lib.hid (heap_at1 w (.cells #[.int .i64 c.room, .slice a1 c.items.length p1, .slice a2 c.senders.length p2, .slice a3 c.getters.length p3, .bool c.closed] 25) (.cells #[.int .i64 d.room, .slice b1 d.items.length q1, .slice b2 d.senders.length q2, .slice b3 d.getters.length q3, .bool d.closed] 25))
  by_cases g0 : c.room = d.room
  · have d0 : (c.room != d.room) = false := by simpa using g0
    have G0 := Lib.hid g0; clear g0
    go_enter Try.func16, Try.ntmps16
    go_wp2_with (fail)
    refine (eqIntS_calls _ _ c.items d.items _ (Row.below R1.out B0.out) (Row.below S1.out B0.out)).mono ?_
    rintro e w1 ⟨rfl, hb⟩
    have B1 := Lib.hid (B0.out.trans (hb.mono B0.out.size)); have X1 := Lib.hid (below_at hb X0.out); have Y1 := Lib.hid (below_at hb Y0.out); clear hb
    obtain ⟨x1c0, x1c1, x1c2, x1c3, x1c4, x1f0, x1f1, x1f2, x1f3, x1f4⟩ := box5 X1.out; obtain ⟨y1c0, y1c1, y1c2, y1c3, y1c4, y1f0, y1f1, y1f2, y1f3, y1f4⟩ := box5 Y1.out; have l1 := heap_lt X1.out; have m1 := heap_lt Y1.out
    by_cases g1 : c.items = d.items
    · rw [decide_eq_true g1]
      have G1 := Lib.hid g1; clear g1
      go_wp2_with (fail)
      refine (eqLetterS_calls _ _ c.senders d.senders _ (Row.below R2.out B1.out) (Row.below S2.out B1.out)).mono ?_
      rintro e w2 ⟨rfl, hb⟩
      have B2 := Lib.hid (B1.out.trans (hb.mono B1.out.size)); have X2 := Lib.hid (below_at hb X1.out); have Y2 := Lib.hid (below_at hb Y1.out); clear hb
      obtain ⟨x2c0, x2c1, x2c2, x2c3, x2c4, x2f0, x2f1, x2f2, x2f3, x2f4⟩ := box5 X2.out; obtain ⟨y2c0, y2c1, y2c2, y2c3, y2c4, y2f0, y2f1, y2f2, y2f3, y2f4⟩ := box5 Y2.out; have l2 := heap_lt X2.out; have m2 := heap_lt Y2.out
      by_cases g2 : c.senders = d.senders
      · rw [decide_eq_true g2]
        have G2 := Lib.hid g2; clear g2
        go_wp2_with (fail)
        refine (eqIntS_calls _ _ c.getters d.getters _ (Row.below R3.out B2.out) (Row.below S3.out B2.out)).mono ?_
        rintro e w3 ⟨rfl, hb⟩
        have B3 := Lib.hid (B2.out.trans (hb.mono B2.out.size)); have X3 := Lib.hid (below_at hb X2.out); have Y3 := Lib.hid (below_at hb Y2.out); clear hb
        obtain ⟨x3c0, x3c1, x3c2, x3c3, x3c4, x3f0, x3f1, x3f2, x3f3, x3f4⟩ := box5 X3.out; obtain ⟨y3c0, y3c1, y3c2, y3c3, y3c4, y3f0, y3f1, y3f2, y3f3, y3f4⟩ := box5 Y3.out; have l3 := heap_lt X3.out; have m3 := heap_lt Y3.out
        by_cases g3 : c.getters = d.getters
        · rw [decide_eq_true g3]
          have G3 := Lib.hid g3; clear g3
          by_cases g4 : c.closed = d.closed
          · obtain ⟨t4, ht4⟩ : ∃ t, c.closed = t := ⟨_, rfl⟩
            have hd4 : d.closed = t4 := by rw [← g4, ht4]
            have G4 := Lib.hid g4; clear g4
            have hcd : c = d := by cases c; cases d; simp only [ChanD.mk.injEq]; exact ⟨G0.out, G1.out, G2.out, G3.out, G4.out⟩
            have HC := Lib.hid hcd; clear hcd
            go_wp2
            go_ret
            exact ⟨ret_bool (decide_eq_true HC.out).symm, B3.out⟩
          · cases hc4 : c.closed <;> cases hd4 : d.closed
            · exact absurd (hc4.trans hd4.symm) g4
            · have HG := Lib.hid g4; clear g4
              go_wp2
              go_ret
              exact ⟨ret_bool (decide_eq_false fun e => HG.out (by rw [e])).symm, B3.out⟩
            · have HG := Lib.hid g4; clear g4
              go_wp2
              go_ret
              exact ⟨ret_bool (decide_eq_false fun e => HG.out (by rw [e])).symm, B3.out⟩
            · exact absurd (hc4.trans hd4.symm) g4
        · rw [decide_eq_false g3]
          go_wp2
          go_ret
          exact ⟨ret_bool (decide_eq_false fun e => g3 (by rw [e])).symm, B3.out⟩
      · rw [decide_eq_false g2]
        go_wp2
        go_ret
        exact ⟨ret_bool (decide_eq_false fun e => g2 (by rw [e])).symm, B2.out⟩
    · rw [decide_eq_false g1]
      go_wp2
      go_ret
      exact ⟨ret_bool (decide_eq_false fun e => g1 (by rw [e])).symm, B1.out⟩
  · have d0 : (c.room != d.room) = true := by simpa using g0
    go_enter Try.func16, Try.ntmps16
    go_wp2
    go_ret
    exact ⟨ret_bool (decide_eq_false fun e => g0 (by rw [e])).symm, B0.out⟩
def marksChan (q : Int) (c : ChanD) : ChanD := ⟨c.room, marksI (q) c.items.length, marksP (q + (c.items.length : Int)) c.senders.length, marksI (q + (c.items.length : Int) + 2 * (c.senders.length : Int)) c.getters.length, c.closed⟩
theorem marksChan_len {q : Int} {c : ChanD} : (marksChan q c).items.length = c.items.length ∧ (marksChan q c).senders.length = c.senders.length ∧ (marksChan q c).getters.length = c.getters.length := ⟨marksI_len _ _, marksP_len _ _, marksI_len _ _⟩
set_option maxHeartbeats 3200000 in
theorem markChan_calls (lo hi : Nat) (v : Value) (c : ChanD) (q : Int) (w : World) (h : ChanOwn lo hi w v c) (hn : c.items.length + c.senders.length + c.getters.length ≤ 1048576) (h0 : 0 ≤ q) (h1 : q ≤ 4194304) :
    Calls Try.prog 17 #[v, .int .i64 q] w fun e w' => e = .returned (.int .i64 (q + (c.items.length : Int) + 2 * (c.senders.length : Int) + (c.getters.length : Int))) ∧ ChanOwn lo hi w' v (marksChan q c) ∧ Span lo hi w w' ∧ Touch (aggBlocks v) w w' := by
  obtain ⟨a1, p1, a2, p2, a3, p3, rfl, h1, b1, h2, b2, h3, b3, x13⟩ := h
  have O1_0 := Lib.hid (Own.alloc h1 (.cells #[.int .i64 c.room, .slice a1 c.items.length p1, .slice a2 c.senders.length p2, .slice a3 c.getters.length p3, .bool c.closed] 25)); clear h1; have H1 := Lib.hid b1; clear b1
  have O2_0 := Lib.hid (Own.alloc h2 (.cells #[.int .i64 c.room, .slice a1 c.items.length p1, .slice a2 c.senders.length p2, .slice a3 c.getters.length p3, .bool c.closed] 25)); clear h2; have H2 := Lib.hid b2; clear b2
  have O3_0 := Lib.hid (Own.alloc h3 (.cells #[.int .i64 c.room, .slice a1 c.items.length p1, .slice a2 c.senders.length p2, .slice a3 c.getters.length p3, .bool c.closed] 25)); clear h3; have H3 := Lib.hid b3; clear b3
  have A12 := Lib.hid (Own.apart_types O1_0.out O2_0.out (by decide))
  have A13 := Lib.hid x13; clear x13
  have A23 := Lib.hid (Own.apart_types O2_0.out O3_0.out (by decide))
  have T0 : Hid (Touch (aggBlocks (.agg #[.int .i64 c.room, .slice a1 c.items.length p1, .slice a2 c.senders.length p2, .slice a3 c.getters.length p3, .bool c.closed])) w (w.alloc (.cells #[.int .i64 c.room, .slice a1 c.items.length p1, .slice a2 c.senders.length p2, .slice a3 c.getters.length p3, .bool c.closed] 25))) := Touch.of_below ((Below.refl _ _).alloc (Nat.le_refl _) _)
  have X0 := Lib.hid (heap_at w (.cells #[.int .i64 c.room, .slice a1 c.items.length p1, .slice a2 c.senders.length p2, .slice a3 c.getters.length p3, .bool c.closed] 25))
  have G0 : Hid (Span lo hi w (w.alloc (.cells #[.int .i64 c.room, .slice a1 c.items.length p1, .slice a2 c.senders.length p2, .slice a3 c.getters.length p3, .bool c.closed] 25))) := Span.of_below ((Below.refl _ _).alloc (Nat.le_refl _) _)
  go_enter Try.func17, Try.ntmps17
  go_wp2_with (fail)
  refine (markIntS_calls lo _ c.items (q) _ O1_0.out (by omega) (by omega) (by omega)).mono ?_
  rintro e w1 ⟨rfl, ho, hg⟩
  have X1 := Lib.hid (grow_at hg X0.out (O1_0.out.ne X0.out (by decide))); have G1 := Lib.hid (G0.out.trans (Span.of_grown hg (fun g e => ⟨(O1_0.out.block g e).1, H1.out g e⟩))); have T1 := Lib.hid (T0.out.step hg (by simp [aggBlocks]))
  have O1_1 := Lib.hid ho
  have O2_1 := Lib.hid (O2_0.out.apart hg A12.out)
  have O3_1 := Lib.hid (O3_0.out.apart hg A13.out)
  clear ho hg; obtain ⟨x1c0, x1c1, x1c2, x1c3, x1c4, x1f0, x1f1, x1f2, x1f3, x1f4⟩ := box5 X1.out; have l1 := heap_lt X1.out
  go_wp2_with (fail)
  refine (markLetterS_calls lo _ c.senders (q + (c.items.length : Int)) _ O2_1.out (by omega) (by omega) (by omega)).mono ?_
  rintro e w2 ⟨rfl, ho, hg⟩
  have X2 := Lib.hid (grow_at hg X1.out (O2_1.out.ne X1.out (by decide))); have G2 := Lib.hid (G1.out.trans (Span.of_grown hg (fun g e => ⟨(O2_1.out.block g e).1, H2.out g e⟩))); have T2 := Lib.hid (T1.out.step hg (by simp [aggBlocks]))
  have O1_2 := Lib.hid (O1_1.out.apart hg A12.out.symm)
  have O2_2 := Lib.hid ho
  have O3_2 := Lib.hid (O3_1.out.apart hg A23.out)
  clear ho hg; obtain ⟨x2c0, x2c1, x2c2, x2c3, x2c4, x2f0, x2f1, x2f2, x2f3, x2f4⟩ := box5 X2.out; have l2 := heap_lt X2.out
  go_wp2_with (fail)
  refine (markIntS_calls lo _ c.getters (q + (c.items.length : Int) + 2 * (c.senders.length : Int)) _ O3_2.out (by omega) (by omega) (by omega)).mono ?_
  rintro e w3 ⟨rfl, ho, hg⟩
  have X3 := Lib.hid (grow_at hg X2.out (O3_2.out.ne X2.out (by decide))); have G3 := Lib.hid (G2.out.trans (Span.of_grown hg (fun g e => ⟨(O3_2.out.block g e).1, H3.out g e⟩))); have T3 := Lib.hid (T2.out.step hg (by simp [aggBlocks]))
  have O1_3 := Lib.hid (O1_2.out.apart hg A13.out.symm)
  have O2_3 := Lib.hid (O2_2.out.apart hg A23.out.symm)
  have O3_3 := Lib.hid ho
  clear ho hg; obtain ⟨x3c0, x3c1, x3c2, x3c3, x3c4, x3f0, x3f1, x3f2, x3f3, x3f4⟩ := box5 X3.out; have l3 := heap_lt X3.out
  go_wp2
  go_ret
  refine ⟨rfl, ⟨a1, p1, a2, p2, a3, p3, ?_, ?_, ?_, ?_, ?_, ?_, ?_, ?_⟩, G3.out, T3.out⟩
  · simp only [marksChan, marksI_len, marksP_len]
  · simp only [marksChan, marksI_len]; exact O1_3.out
  · simp only [marksChan, marksI_len]; exact H1.out
  · simp only [marksChan, marksP_len]; exact O2_3.out
  · simp only [marksChan, marksP_len]; exact H2.out
  · simp only [marksChan, marksI_len]; exact O3_3.out
  · simp only [marksChan, marksI_len]; exact H3.out
  · simp only [marksChan, marksI_len]; exact A13.out
set_option maxHeartbeats 3200000 in
theorem heldChan_calls (v : Value) (c : ChanD) (q : Int) (w : World) (h : ChanRow w v (marksChan q c)) (hn : c.items.length + c.senders.length + c.getters.length ≤ 1048576) (h0 : 0 ≤ q) (h1 : q ≤ 4194304) :
    Calls Try.prog 18 #[v, .int .i64 q] w fun e w' => e = .returned (.int .i64 (q + (c.items.length : Int) + 2 * (c.senders.length : Int) + (c.getters.length : Int))) ∧ Below w.heap.size w w' := by
  obtain ⟨a1, p1, a2, p2, a3, p3, rfl, r1, r2, r3⟩ := h
  simp only [marksChan, marksI_len, marksP_len] at r1 r2 r3 ⊢
  have R1 := Lib.hid r1; clear r1
  have R2 := Lib.hid r2; clear r2
  have R3 := Lib.hid r3; clear r3
  have hb0 : Below w.heap.size w (w.alloc (.cells #[.int .i64 c.room, .slice a1 c.items.length p1, .slice a2 c.senders.length p2, .slice a3 c.getters.length p3, .bool c.closed] 25)) := (Below.refl _ _).alloc (Nat.le_refl _) _
  have B0 := Lib.hid hb0; clear hb0
  have X0 := Lib.hid (heap_at w (.cells #[.int .i64 c.room, .slice a1 c.items.length p1, .slice a2 c.senders.length p2, .slice a3 c.getters.length p3, .bool c.closed] 25))
  go_enter Try.func18, Try.ntmps18
  go_wp2_with (fail)
  refine (heldIntS_calls _ c.items.length (q) _ (Row.below R1.out B0.out) (by omega) (by omega) (by omega)).mono ?_
  rintro e w1 ⟨rfl, hb⟩
  have B1 := Lib.hid (B0.out.trans (hb.mono B0.out.size)); have X1 := Lib.hid (below_at hb X0.out); clear hb; obtain ⟨x1c0, x1c1, x1c2, x1c3, x1c4, x1f0, x1f1, x1f2, x1f3, x1f4⟩ := box5 X1.out; have l1 := heap_lt X1.out
  go_wp2_with (fail)
  refine (heldLetterS_calls _ c.senders.length (q + (c.items.length : Int)) _ (Row.below R2.out B1.out) (by omega) (by omega) (by omega)).mono ?_
  rintro e w2 ⟨rfl, hb⟩
  have B2 := Lib.hid (B1.out.trans (hb.mono B1.out.size)); have X2 := Lib.hid (below_at hb X1.out); clear hb; obtain ⟨x2c0, x2c1, x2c2, x2c3, x2c4, x2f0, x2f1, x2f2, x2f3, x2f4⟩ := box5 X2.out; have l2 := heap_lt X2.out
  go_wp2_with (fail)
  refine (heldIntS_calls _ c.getters.length (q + (c.items.length : Int) + 2 * (c.senders.length : Int)) _ (Row.below R3.out B2.out) (by omega) (by omega) (by omega)).mono ?_
  rintro e w3 ⟨rfl, hb⟩
  have B3 := Lib.hid (B2.out.trans (hb.mono B2.out.size)); have X3 := Lib.hid (below_at hb X2.out); clear hb; obtain ⟨x3c0, x3c1, x3c2, x3c3, x3c4, x3f0, x3f1, x3f2, x3f3, x3f4⟩ := box5 X3.out; have l3 := heap_lt X3.out
  go_wp2
  go_ret
  exact ⟨rfl, B3.out⟩
end Go.Proofs.Ytpgiinklbnlloaa
