/- The operation of a text, as the reference's ParseOp finds it, in plain terms. No program in sight. -/
import Derived.Test.YthbnbofoefdneaaDoorNumP
namespace Go.Proofs.YthbnbofoefdneaaDoor
open Go.RowKit
set_option linter.unusedSimpArgs false
set_option linter.unusedVariables false
def numsL : List ByteArray → Option (List Int)
  | [] => some []
  | p :: r => (numB p).bind fun n => (numsL r).map fun l => n :: l
theorem numsL_snoc : ∀ (l : List ByteArray) (p : ByteArray), numsL (l ++ [p]) = (numsL l).bind fun ns => (numB p).map fun n => ns ++ [n]
  | [], p => by
    simp only [List.nil_append, numsL, Option.map_some, Option.bind_some]
    cases numB p <;> rfl
  | a :: r, p => by
    simp only [List.cons_append, numsL]
    cases numB a with
    | none => rfl
    | some n =>
      simp only [Option.bind_some]
      rw [numsL_snoc r p]
      cases numsL r with
      | none => rfl
      | some ns => simp only [Option.bind_some, Option.map_some]; cases numB p <;> rfl
theorem numsL_len : ∀ {l : List ByteArray} {ns : List Int}, numsL l = some ns → ns.length = l.length
  | [], ns, h => by simp only [numsL, Option.some.injEq] at h; subst h; rfl
  | p :: r, ns, h => by
    simp only [numsL] at h
    cases hp : numB p with
    | none => rw [hp] at h; cases h
    | some n =>
      rw [hp] at h
      simp only [Option.bind_some] at h
      cases hr : numsL r with
      | none => rw [hr] at h; cases h
      | some l =>
        rw [hr] at h
        simp only [Option.map_some, Option.some.injEq] at h
        subst h
        simp [numsL_len hr]
theorem numsL_small : ∀ {l : List ByteArray} {ns : List Int}, numsL l = some ns → ∀ n ∈ ns, S17 n
  | [], ns, h, n, hn => by simp only [numsL, Option.some.injEq] at h; subst h; cases hn
  | p :: r, ns, h, n, hn => by
    simp only [numsL] at h
    cases hp : numB p with
    | none => rw [hp] at h; cases h
    | some x =>
      rw [hp] at h
      simp only [Option.bind_some] at h
      cases hr : numsL r with
      | none => rw [hr] at h; cases h
      | some l =>
        rw [hr] at h
        simp only [Option.map_some, Option.some.injEq] at h
        subst h
        rcases List.mem_cons.1 hn with rfl | hn
        · exact numB_small hp
        · exact numsL_small hr n hn
theorem numsL_bad {l : List ByteArray} {i : Nat} {p : ByteArray} (hp : l[i]? = some p) (hn : numB p = none) : numsL l = none := by
  induction l generalizing i with
  | nil => cases hp
  | cons a r ih =>
    cases i with
    | zero =>
      simp only [List.getElem?_cons_zero, Option.some.injEq] at hp
      subst hp
      simp only [numsL, hn]; rfl
    | succ i =>
      simp only [List.getElem?_cons_succ] at hp
      simp only [numsL]
      cases numB a with
      | none => rfl
      | some n => simp only [Option.bind_some]; rw [ih hp]; rfl
/-- The operation of a kind with these numbers, if they are as many as it has. -/
def makeB (k : Int) (ns : List Int) : Option OpT :=
  match ns with
  | [a] => if argsN k = 0 then some (k, 0, a) else if argsN k = 1 then some (k, a, 0) else none
  | [a, b] => if argsN k = 2 then some (k, a, b) else none
  | _ => none
theorem makeB_kind {k : Int} {ns : List Int} {x : OpT} (h : makeB k ns = some x) : x.1 = k := by
  unfold makeB at h
  split at h
  · split at h
    · cases h; rfl
    · split at h
      · cases h; rfl
      · cases h
  · split at h
    · cases h; rfl
    · cases h
  · cases h
theorem makeB_inB {k : Int} {ns : List Int} {x : OpT} (h : makeB k ns = some x) (hs : ∀ n ∈ ns, S17 n) : S17 x.2.1 ∧ S17 x.2.2 := by
  have z : S17 0 := by unfold S17; omega
  unfold makeB at h
  split at h
  · rename_i a
    split at h
    · cases h; exact ⟨z, hs a (by simp)⟩
    · split at h
      · cases h; exact ⟨hs a (by simp), z⟩
      · cases h
  · rename_i a b
    split at h
    · cases h; exact ⟨hs a (by simp), hs b (by simp)⟩
    · cases h
  · cases h
/-- One kind is tried. -/
def TryB (text : ByteArray) (ws : List ByteArray) (ns : List Int) (k : Int) (x : OpT) : Prop := ws[0]? = some (wordB k) ∧ makeB k ns = some x ∧ opText x = text
/-- x is the text's operation. -/
def ParB (text : ByteArray) (x : OpT) : Prop := Kd x.1 ∧ ∃ ns, numsL ((cutB text 32).drop 1) = some ns ∧ ns.length ≤ 3 ∧ TryB text (cutB text 32) ns x.1 x
/-- What a parse of the text may end with. -/
def ParEnd (text : ByteArray) : Option OpT → Prop
  | some x => ParB text x
  | none => ∀ x, ¬ ParB text x
theorem ParB.small {t : ByteArray} {x : OpT} (h : ParB t x) : S17 x.2.1 ∧ S17 x.2.2 := by
  obtain ⟨_, ns, h1, _, h2⟩ := h
  exact makeB_inB h2.2.1 (numsL_small h1)
theorem ParB.inB {t : ByteArray} {x : OpT} (h : ParB t x) : InB x.2.1 ∧ InB x.2.2 := ⟨h.small.1.inB, h.small.2.inB⟩
def optO (r : Option OpT) : OpT := r.getD (0, 0, 0)
/-- What the loop over the pieces keeps at k: ns stands. -/
def NsInv (ws : List ByteArray) (k : Nat) (ns : List Int) : Prop := 1 ≤ k ∧ k ≤ ws.length ∧ ns.length + 1 = k ∧ numsL ((ws.drop 1).take (k - 1)) = some ns
theorem NsInv.start {ws : List ByteArray} (h : 1 ≤ ws.length) : NsInv ws 1 [] := ⟨Nat.le_refl _, h, rfl, rfl⟩
theorem NsInv.step {ws : List ByteArray} {k : Nat} {ns : List Int} {p : ByteArray} {n : Int} (h : NsInv ws k ns) (hp : ws[k]? = some p) (hn : numB p = some n) : NsInv ws (k + 1) (ns ++ [n]) := by
  obtain ⟨h1, h2, h3, h4⟩ := h
  have hk : k < ws.length := get_lt hp
  refine ⟨by omega, by omega, by simp; omega, ?_⟩
  rw [show k + 1 - 1 = (k - 1) + 1 by omega, take_snoc (x := p) (by rw [List.getElem?_drop, show 1 + (k - 1) = k by omega]; exact hp), numsL_snoc, h4, hn]
  rfl
theorem NsInv.bad {ws : List ByteArray} {k : Nat} {p : ByteArray} (h : 1 ≤ k) (hp : ws[k]? = some p) (hn : numB p = none) : numsL (ws.drop 1) = none :=
  numsL_bad (i := k - 1) (by rw [List.getElem?_drop, show 1 + (k - 1) = k by omega]; exact hp) hn
theorem NsInv.small {ws : List ByteArray} {k : Nat} {ns : List Int} (h : NsInv ws k ns) : ∀ n ∈ ns, S17 n := numsL_small h.2.2.2
theorem NsInv.all {ws : List ByteArray} {ns : List Int} (h : NsInv ws ws.length ns) : numsL (ws.drop 1) = some ns := by
  have := h.2.2.2
  rwa [List.take_of_length_le (by simp)] at this
/-- A piece is no number: no operation. -/
theorem parB_bad {t : ByteArray} (h : numsL ((cutB t 32).drop 1) = none) : ParEnd t none := by
  rintro x ⟨_, ns, h1, _⟩
  rw [h] at h1; cases h1
/-- Four numbers or more: no operation. -/
theorem parB_many {t : ByteArray} (h : 4 < (cutB t 32).length) : ParEnd t none := by
  rintro x ⟨_, ns, h1, h2, _⟩
  have := numsL_len h1
  simp at this; omega
/-- What the loop over the kinds keeps: those before k are not it. -/
def KInv (t : ByteArray) (ns : List Int) (k : Int) : Prop := 1 ≤ k ∧ k ≤ 11 ∧ ∀ j x, 1 ≤ j → j < k → ¬ TryB t (cutB t 32) ns j x
theorem KInv.start (t : ByteArray) (ns : List Int) : KInv t ns 1 := ⟨by omega, by omega, fun j x h1 h2 => by omega⟩
theorem KInv.step {t : ByteArray} {ns : List Int} {k : Int} (h : KInv t ns k) (hk : k ≤ 10) (hn : ∀ x, ¬ TryB t (cutB t 32) ns k x) : KInv t ns (k + 1) :=
  ⟨by have := h.1; omega, by omega, fun j x h1 h2 => by
    rcases Int.lt_or_le j k with h3 | h3
    · exact h.2.2 j x h1 h3
    · obtain rfl : j = k := by omega
      exact hn x⟩
theorem KInv.done {t : ByteArray} {ns : List Int} {k : Int} (h : KInv t ns k) (hk : 10 < k) (hs : numsL ((cutB t 32).drop 1) = some ns) : ParEnd t none := by
  rintro x ⟨hx, ns', h1, _, h2⟩
  rw [hs] at h1
  cases h1
  exact h.2.2 x.1 x hx.1 (by have := hx.2; omega) h2
theorem KInv.hit {t : ByteArray} {ns : List Int} {k : Int} {x : OpT} (h : KInv t ns k) (hk : k ≤ 10) (hs : numsL ((cutB t 32).drop 1) = some ns) (hl : ns.length ≤ 3) (hw : (cutB t 32)[0]? = some (wordB k)) (hm : makeB k ns = some x) (ht : opText x = t) : ParEnd t (some x) := by
  have e := makeB_kind hm
  refine ⟨by rw [e]; exact ⟨h.1, hk⟩, ns, hs, hl, ?_⟩
  rw [e]
  exact ⟨hw, hm, ht⟩
end Go.Proofs.YthbnbofoefdneaaDoor
