/- The struct Once: its plain twin, what reads as it, the exact laws' helpers on it (made by gen_struct.py). -/
import Derived.Test.YtmmkbiljjhigfaaSpan
import Derived.Test.YtmmkbiljjhigfaaExI
namespace Go.Proofs.Ytmmkbiljjhigfaa
open Go.RowKit
set_option linter.unusedSimpArgs false
set_option linter.unusedVariables false
structure OnceD where
  state : Int
  owner : Int
  value : Int
  waits : List Int
  deriving DecidableEq
def OnceD.zero : OnceD := ⟨0, 0, 0, []⟩
/-- In w the value v reads as c. -/
def OnceRow (w : World) (v : Value) (c : OnceD) : Prop := ∃ a3 p3, v = .agg #[.int .i64 c.state, .int .i64 c.owner, .int .i64 c.value, .slice a3 c.waits.length p3] ∧ IRow w (.slice a3 c.waits.length p3) c.waits
theorem OnceRow.below {w w' : World} {v : Value} {c : OnceD} (h : OnceRow w v c) (hb : Below w.heap.size w w') : OnceRow w' v c := by
  obtain ⟨a3, p3, rfl, h3⟩ := h
  exact ⟨_, _, rfl, Row.below h3 hb⟩
/-- .. and its slices are the call's own: their blocks lie from lo on and below hi. -/
def OnceOwn (lo hi : Nat) (w : World) (v : Value) (c : OnceD) : Prop := ∃ a3 p3, v = .agg #[.int .i64 c.state, .int .i64 c.owner, .int .i64 c.value, .slice a3 c.waits.length p3] ∧ Own lo 3 1 encI w (.slice a3 c.waits.length p3) c.waits ∧ (∀ g, (Value.slice a3 c.waits.length p3).ownBlock = some g → g < hi)
theorem OnceOwn.row {lo hi : Nat} {w : World} {v : Value} {c : OnceD} (h : OnceOwn lo hi w v c) : OnceRow w v c := by
  obtain ⟨a3, p3, rfl, h3, b3⟩ := h
  exact ⟨_, _, rfl, h3.row encI_len⟩
theorem OnceOwn.kept {lo hi : Nat} {w w' : World} {v : Value} {c : OnceD} (h : OnceOwn lo hi w v c) (hb : Below w.heap.size w w') : OnceOwn lo hi w' v c := by
  obtain ⟨a3, p3, rfl, h3, b3⟩ := h
  exact ⟨_, _, rfl, h3.kept hb, b3⟩
theorem OnceOwn.span {lo hi l r : Nat} {w w' : World} {v : Value} {c : OnceD} (h : OnceOwn lo hi w v c) (hs : Span l r w w') (ho : hi ≤ l ∨ r ≤ lo) : OnceOwn lo hi w' v c := by
  obtain ⟨a3, p3, rfl, h3, b3⟩ := h
  exact ⟨_, _, rfl, h3.span hs (fun g e => by have := b3 g e; have := (h3.block g e).1; omega), b3⟩
theorem OnceOwn.mono {lo hi lo' hi' : Nat} {w : World} {v : Value} {c : OnceD} (h : OnceOwn lo hi w v c) (hl : lo' ≤ lo) (hh : hi ≤ hi') : OnceOwn lo' hi' w v c := by
  obtain ⟨a3, p3, rfl, h3, b3⟩ := h
  exact ⟨_, _, rfl, h3.mono hl, fun g e => Nat.lt_of_lt_of_le (b3 g e) hh⟩
theorem OnceOwn.alloc {lo hi : Nat} {w : World} {v : Value} {c : OnceD} (h : OnceOwn lo hi w v c) (o : Obj) : OnceOwn lo hi (w.alloc o) v c := h.kept ((Below.refl _ _).alloc (Nat.le_refl _) o)
theorem OnceOwn.drew {lo hi : Nat} {w : World} {v : Value} {c : OnceD} (h : OnceOwn lo hi w v c) : OnceOwn lo hi w.drew v c := h
theorem OnceOwn.grownL {lo hi : Nat} {w w' : World} {v u : Value} {c : OnceD} (h : OnceOwn lo hi w v c) (hg : w.grownBy w' u.ownBlock) (hf : Free u v) : OnceOwn lo hi w' v c := by
  obtain ⟨a3, p3, rfl, h3, b3⟩ := h
  have e3 : (Value.slice a3 c.waits.length p3).ownBlock = none ∨ (Value.slice a3 c.waits.length p3).ownBlock ≠ u.ownBlock := by
    cases hu : u.ownBlock with
    | none => cases hv : (Value.slice a3 c.waits.length p3).ownBlock with
      | none => exact .inl rfl
      | some g => exact .inr (fun e => by cases e)
    | some g => exact .inr fun e => hf g hu (by simp only [aggBlocks, List.map_cons, List.mem_cons]; simp [e])
  exact ⟨_, _, rfl, h3.growns hg e3, b3⟩
theorem szOnce_calls (v : Value) (c : OnceD) (left : Int) (w : World) (h : OnceRow w v c) (h0 : 0 ≤ left) (h1 : left ≤ 1048576) :
    Calls Try.prog 20 #[v, .int .i64 left] w fun e w' => e = .returned (.int .i64 (szF left (c.waits.length))) ∧ Below w.heap.size w w' := by
  obtain ⟨a3, p3, rfl, r3⟩ := h
  have n3 : c.waits.length ≤ 9223372036854775807 := by obtain ⟨_, _, _, h2, h3, _⟩ := r3; omega
  clear r3
  have hb : Below w.heap.size w (w.alloc (.cells #[.int .i64 c.state, .int .i64 c.owner, .int .i64 c.value, .slice a3 c.waits.length p3] 34)) := (Below.refl _ _).alloc (Nat.le_refl _) _
  have HB := Lib.hid hb; clear hb
  go_enter Try.func20, Try.ntmps20
  go_wp2_with (fail)
  refine (szIntS_calls a3 c.waits.length p3 (left) _ n3 (by omega) (by omega)).mono ?_
  rintro e w' ⟨rfl, rfl⟩
  by_cases g3 : (c.waits.length : Int) ≤ left
  · rw [szF_pos g3]
    go_wp2
    go_ret
    exact ⟨ret_int (by rw [szF_pos (by omega)] <;> omega), HB.out⟩
  · rw [szF_neg g3]
    go_wp2
    go_ret
    exact ⟨ret_int (by rw [szF_neg (by omega)]), HB.out⟩
set_option maxHeartbeats 3200000 in
theorem toOnce_calls (v : Value) (c : OnceD) (w : World) (h : OnceRow w v c) (hn : c.waits.length ≤ 1048576) :
    Calls Try.prog 21 #[v] w fun e w' => ∃ v', e = .returned v' ∧ OnceOwn w.heap.size w'.heap.size w' v' c ∧ Below w.heap.size w w' := by
  obtain ⟨a3, p3, rfl, r3⟩ := h
  have R3 := Lib.hid r3; clear r3
  go_enter Try.func21, Try.ntmps21
  go_wp2_with (fail)
  have hb0 : Below w.heap.size w (((w.alloc (.cells #[.int .i64 c.state, .int .i64 c.owner, .int .i64 c.value, .slice a3 c.waits.length p3] 34)).alloc (.cells #[.int .i64 0, .int .i64 0, .int .i64 0, .slice none 0 0] 25)).alloc (.cells #[.int .i64 c.state, .int .i64 c.owner, .int .i64 c.value, .slice none 0 0] 25)) := (((Below.refl _ _).alloc (Nat.le_refl _) _).alloc (by simp) _).alloc (by simp only [szA]; omega) _
  have B0 := Lib.hid hb0; clear hb0
  have XP0 := Lib.hid (heap_up (B := .cells #[.int .i64 c.state, .int .i64 c.owner, .int .i64 c.value, .slice none 0 0] 25) (heap_up (B := .cells #[.int .i64 0, .int .i64 0, .int .i64 0, .slice none 0 0] 25) (heap_at w (.cells #[.int .i64 c.state, .int .i64 c.owner, .int .i64 c.value, .slice a3 c.waits.length p3] 34))))
  have XR0 := Lib.hid (heap_up (B := .cells #[.int .i64 c.state, .int .i64 c.owner, .int .i64 c.value, .slice none 0 0] 25) (heap_at1 w (.cells #[.int .i64 c.state, .int .i64 c.owner, .int .i64 c.value, .slice a3 c.waits.length p3] 34) (.cells #[.int .i64 0, .int .i64 0, .int .i64 0, .slice none 0 0] 25)))
  have XO0 := Lib.hid (heap_at2 w (.cells #[.int .i64 c.state, .int .i64 c.owner, .int .i64 c.value, .slice a3 c.waits.length p3] 34) (.cells #[.int .i64 0, .int .i64 0, .int .i64 0, .slice none 0 0] 25) (.cells #[.int .i64 c.state, .int .i64 c.owner, .int .i64 c.value, .slice none 0 0] 25))
  refine (toIntS_calls _ c.waits _ (Row.below R3.out B0.out) (by omega)).mono ?_
  rintro e w1 ⟨v3, rfl, ho, hb⟩
  have B1 := Lib.hid ((B0.out).trans (hb.mono (B0.out).size)); have XP1 := Lib.hid (below_at hb (XP0.out)); have XR1 := Lib.hid (below_at hb (XR0.out)); have XO1 := Lib.hid (below_at hb (XO0.out))
  have z1 := heap_lt XO1.out; have y1 := hb.size; simp only [szA, szS] at y1
  have O3_1 := Lib.hid (ho.mono (base' := w.heap.size + 3) (by simp only [szA, szS]; omega)); obtain ⟨ad3, cp3, rfl⟩ := ho.form; clear ho hb
  obtain ⟨q1c0, q1c1, q1c2, q1c3, q1f0, q1f1, q1f2, q1f3⟩ := box4 XP1.out; obtain ⟨s1c0, s1c1, s1c2, s1c3, s1f0, s1f1, s1f2, s1f3⟩ := box4 XO1.out; obtain ⟨t1c0, t1c1, t1c2, t1c3, t1f0, t1f1, t1f2, t1f3⟩ := box4 XR1.out; have l1 := heap_lt XP1.out; have m1 := heap_lt XR1.out
  go_wp2
  refine bodyPost_ret (v := .agg #[.int .i64 c.state, .int .i64 c.owner, .int .i64 c.value, .slice ad3 c.waits.length cp3]) (by simp [results, Try.results21, go_sem, t1c0, t1c1, t1c2, t1c3, m1, z1]) rfl ?_
  have B9 := Lib.hid (below_setAt (below_setAt (below_setAt (below_setAt (below_setAt (B1.out) (w.heap.size + 2) 3 (by omega) (.slice ad3 c.waits.length cp3)) (w.heap.size + 1) 0 (by omega) (.int .i64 c.state)) (w.heap.size + 1) 1 (by omega) (.int .i64 c.owner)) (w.heap.size + 1) 2 (by omega) (.int .i64 c.value)) (w.heap.size + 1) 3 (by omega) (.slice ad3 c.waits.length cp3))
  have O3_9 := Lib.hid (Own.setAt (Own.setAt (Own.setAt (Own.setAt (Own.setAt (O3_1.out) (w.heap.size + 2) 3 (by omega) (.slice ad3 c.waits.length cp3)) (w.heap.size + 1) 0 (by omega) (.int .i64 c.state)) (w.heap.size + 1) 1 (by omega) (.int .i64 c.owner)) (w.heap.size + 1) 2 (by omega) (.int .i64 c.value)) (w.heap.size + 1) 3 (by omega) (.slice ad3 c.waits.length cp3))
  exact ⟨_, rfl, ⟨_, _, rfl, O3_9.out.mono (by omega), O3_9.out.hi⟩, B9.out⟩
set_option maxHeartbeats 3200000 in
theorem eqOnce_calls (v1 v2 : Value) (c d : OnceD) (w : World) (h1 : OnceRow w v1 c) (h2 : OnceRow w v2 d) :
    Calls Try.prog 22 #[v1, v2] w fun e w' => e = .returned (.bool (decide (c = d))) ∧ Below w.heap.size w w' := by
  obtain ⟨a3, p3, rfl, r3⟩ := h1
  obtain ⟨b3, q3, rfl, s3⟩ := h2
  have R3 := Lib.hid r3; clear r3; have S3 := Lib.hid s3; clear s3
  have hb0 : Below w.heap.size w ((w.alloc (.cells #[.int .i64 c.state, .int .i64 c.owner, .int .i64 c.value, .slice a3 c.waits.length p3] 25)).alloc (.cells #[.int .i64 d.state, .int .i64 d.owner, .int .i64 d.value, .slice b3 d.waits.length q3] 25)) := ((Below.refl _ _).alloc (Nat.le_refl _) _).alloc (by simp) _
  have B0 := Lib.hid hb0; clear hb0
  have X0 := Lib.hid (heap_up (B := .cells #[.int .i64 d.state, .int .i64 d.owner, .int .i64 d.value, .slice b3 d.waits.length q3] 25) (heap_at w (.cells #[.int .i64 c.state, .int .i64 c.owner, .int .i64 c.value, .slice a3 c.waits.length p3] 25)))
  have Y0 := Lib.hid (heap_at1 w (.cells #[.int .i64 c.state, .int .i64 c.owner, .int .i64 c.value, .slice a3 c.waits.length p3] 25) (.cells #[.int .i64 d.state, .int .i64 d.owner, .int .i64 d.value, .slice b3 d.waits.length q3] 25))
  by_cases g0 : c.state = d.state
  · have d0 : (c.state != d.state) = false := by simpa using g0
    have G0 := Lib.hid g0; clear g0
    by_cases g1 : c.owner = d.owner
    · have d1 : (c.owner != d.owner) = false := by simpa using g1
      have G1 := Lib.hid g1; clear g1
      by_cases g2 : c.value = d.value
      · have d2 : (c.value != d.value) = false := by simpa using g2
        have G2 := Lib.hid g2; clear g2
        go_enter Try.func22, Try.ntmps22
        go_wp2_with (fail)
        refine (eqIntS_calls _ _ c.waits d.waits _ (Row.below R3.out B0.out) (Row.below S3.out B0.out)).mono ?_
        rintro e w1 ⟨rfl, hb⟩
        have B1 := Lib.hid (B0.out.trans (hb.mono B0.out.size)); have X1 := Lib.hid (below_at hb X0.out); have Y1 := Lib.hid (below_at hb Y0.out); clear hb
        obtain ⟨x1c0, x1c1, x1c2, x1c3, x1f0, x1f1, x1f2, x1f3⟩ := box4 X1.out; obtain ⟨y1c0, y1c1, y1c2, y1c3, y1f0, y1f1, y1f2, y1f3⟩ := box4 Y1.out; have l1 := heap_lt X1.out; have m1 := heap_lt Y1.out
        by_cases g3 : c.waits = d.waits
        · rw [decide_eq_true g3]
          have G3 := Lib.hid g3; clear g3
          have hcd : c = d := by cases c; cases d; simp only [OnceD.mk.injEq]; exact ⟨G0.out, G1.out, G2.out, G3.out⟩
          have HC := Lib.hid hcd; clear hcd
          go_wp2
          go_ret
          exact ⟨ret_bool (decide_eq_true HC.out).symm, B1.out⟩
        · rw [decide_eq_false g3]
          go_wp2
          go_ret
          exact ⟨ret_bool (decide_eq_false fun e => g3 (by rw [e])).symm, B1.out⟩
      · have d2 : (c.value != d.value) = true := by simpa using g2
        go_enter Try.func22, Try.ntmps22
        go_wp2
        go_ret
        exact ⟨ret_bool (decide_eq_false fun e => g2 (by rw [e])).symm, B0.out⟩
    · have d1 : (c.owner != d.owner) = true := by simpa using g1
      go_enter Try.func22, Try.ntmps22
      go_wp2
      go_ret
      exact ⟨ret_bool (decide_eq_false fun e => g1 (by rw [e])).symm, B0.out⟩
  · have d0 : (c.state != d.state) = true := by simpa using g0
    go_enter Try.func22, Try.ntmps22
    go_wp2
    go_ret
    exact ⟨ret_bool (decide_eq_false fun e => g0 (by rw [e])).symm, B0.out⟩
def marksOnce (q : Int) (c : OnceD) : OnceD := ⟨c.state, c.owner, c.value, marksI (q) c.waits.length⟩
theorem marksOnce_len {q : Int} {c : OnceD} : (marksOnce q c).waits.length = c.waits.length := marksI_len _ _
set_option maxHeartbeats 3200000 in
theorem markOnce_calls (lo hi : Nat) (v : Value) (c : OnceD) (q : Int) (w : World) (h : OnceOwn lo hi w v c) (hn : c.waits.length ≤ 1048576) (h0 : 0 ≤ q) (h1 : q ≤ 4194304) :
    Calls Try.prog 23 #[v, .int .i64 q] w fun e w' => e = .returned (.int .i64 (q + (c.waits.length : Int))) ∧ OnceOwn lo hi w' v (marksOnce q c) ∧ Span lo hi w w' ∧ Touch (aggBlocks v) w w' := by
  obtain ⟨a3, p3, rfl, h3, b3⟩ := h
  have O3_0 := Lib.hid (Own.alloc h3 (.cells #[.int .i64 c.state, .int .i64 c.owner, .int .i64 c.value, .slice a3 c.waits.length p3] 25)); clear h3; have H3 := Lib.hid b3; clear b3
  have T0 : Hid (Touch (aggBlocks (.agg #[.int .i64 c.state, .int .i64 c.owner, .int .i64 c.value, .slice a3 c.waits.length p3])) w (w.alloc (.cells #[.int .i64 c.state, .int .i64 c.owner, .int .i64 c.value, .slice a3 c.waits.length p3] 25))) := Touch.of_below ((Below.refl _ _).alloc (Nat.le_refl _) _)
  have X0 := Lib.hid (heap_at w (.cells #[.int .i64 c.state, .int .i64 c.owner, .int .i64 c.value, .slice a3 c.waits.length p3] 25))
  have G0 : Hid (Span lo hi w (w.alloc (.cells #[.int .i64 c.state, .int .i64 c.owner, .int .i64 c.value, .slice a3 c.waits.length p3] 25))) := Span.of_below ((Below.refl _ _).alloc (Nat.le_refl _) _)
  go_enter Try.func23, Try.ntmps23
  go_wp2_with (fail)
  refine (markIntS_calls lo _ c.waits (q) _ O3_0.out (by omega) (by omega) (by omega)).mono ?_
  rintro e w1 ⟨rfl, ho, hg⟩
  have X1 := Lib.hid (grow_at hg X0.out (O3_0.out.ne X0.out (by decide))); have G1 := Lib.hid (G0.out.trans (Span.of_grown hg (fun g e => ⟨(O3_0.out.block g e).1, H3.out g e⟩))); have T1 := Lib.hid (T0.out.step hg (by simp [aggBlocks]))
  have O3_1 := Lib.hid ho
  clear ho hg; obtain ⟨x1c0, x1c1, x1c2, x1c3, x1f0, x1f1, x1f2, x1f3⟩ := box4 X1.out; have l1 := heap_lt X1.out
  go_wp2
  go_ret
  refine ⟨rfl, ⟨a3, p3, ?_, ?_, ?_⟩, G1.out, T1.out⟩
  · simp only [marksOnce, marksI_len]
  · simp only [marksOnce, marksI_len]; exact O3_1.out
  · simp only [marksOnce, marksI_len]; exact H3.out
set_option maxHeartbeats 3200000 in
theorem heldOnce_calls (v : Value) (c : OnceD) (q : Int) (w : World) (h : OnceRow w v (marksOnce q c)) (hn : c.waits.length ≤ 1048576) (h0 : 0 ≤ q) (h1 : q ≤ 4194304) :
    Calls Try.prog 24 #[v, .int .i64 q] w fun e w' => e = .returned (.int .i64 (q + (c.waits.length : Int))) ∧ Below w.heap.size w w' := by
  obtain ⟨a3, p3, rfl, r3⟩ := h
  simp only [marksOnce, marksI_len] at r3 ⊢
  have R3 := Lib.hid r3; clear r3
  have hb0 : Below w.heap.size w (w.alloc (.cells #[.int .i64 c.state, .int .i64 c.owner, .int .i64 c.value, .slice a3 c.waits.length p3] 25)) := (Below.refl _ _).alloc (Nat.le_refl _) _
  have B0 := Lib.hid hb0; clear hb0
  have X0 := Lib.hid (heap_at w (.cells #[.int .i64 c.state, .int .i64 c.owner, .int .i64 c.value, .slice a3 c.waits.length p3] 25))
  go_enter Try.func24, Try.ntmps24
  go_wp2_with (fail)
  refine (heldIntS_calls _ c.waits.length (q) _ (Row.below R3.out B0.out) (by omega) (by omega) (by omega)).mono ?_
  rintro e w1 ⟨rfl, hb⟩
  have B1 := Lib.hid (B0.out.trans (hb.mono B0.out.size)); have X1 := Lib.hid (below_at hb X0.out); clear hb; obtain ⟨x1c0, x1c1, x1c2, x1c3, x1f0, x1f1, x1f2, x1f3⟩ := box4 X1.out; have l1 := heap_lt X1.out
  go_wp2
  go_ret
  exact ⟨rfl, B1.out⟩
end Go.Proofs.Ytmmkbiljjhigfaa
