/- A number in canonical decimal, of at most 17 digits: what the reference's l13Num returns, in plain terms; it is the inverse of the numeral. No program in sight. -/
import Derived.Test.YthbnbofoefdneaaDoorCutP
import Derived.Test.YthbnbofoefdneaaDoorOpText
import Derived.Lib.Atoi
namespace Go.Proofs.YthbnbofoefdneaaDoor
open Go.RowKit
set_option linter.unusedSimpArgs false
set_option linter.unusedVariables false
/-- The first byte. -/
def hdB (s : ByteArray) : Option Nat := (s.data.toList[0]?).map (·.toNat)
def digB (d : ByteArray) (neg : Bool) : Option Nat :=
  if d.size = 0 then none else if 17 < d.size then none else if hdB d = some 48 ∧ (1 < d.size ∨ neg = true) then none else Lib.decFrom 0 d.data.toList
def numB (s : ByteArray) : Option Int := if hdB s = some 45 then (digB (s.extract 1 s.size) true).map fun (m : Nat) => -(m : Int) else (digB s false).map fun (m : Nat) => (m : Int)
theorem ba_len (s : ByteArray) : s.data.toList.length = s.size := by rw [Array.length_toList]; rfl
theorem hdB_get {s : ByteArray} (h : 0 < s.size) : hdB s = some (s[0].toNat) := by unfold hdB; rw [byte_at h]; rfl
theorem hdB_none {s : ByteArray} (h : s.size = 0) : hdB s = none := by
  unfold hdB; rw [List.getElem?_eq_none (by rw [ba_len]; omega)]; rfl
theorem extract1_size (s : ByteArray) : (s.extract 1 s.size).size = s.size - 1 := by rw [ByteArray.size_extract]; omega
theorem numB_neg {s : ByteArray} (h : 0 < s.size) (hc : s[0].toNat = 45) : numB s = (digB (s.extract 1 s.size) true).map fun (m : Nat) => -(m : Int) := by
  unfold numB; rw [hdB_get h, hc, if_pos rfl]
theorem numB_pos {s : ByteArray} (h : ∀ h : 0 < s.size, s[0].toNat ≠ 45) : numB s = (digB s false).map fun (m : Nat) => (m : Int) := by
  unfold numB
  by_cases h0 : 0 < s.size
  · rw [hdB_get h0, if_neg (by simpa using h h0)]
  · rw [hdB_none (by omega), if_neg (by simp)]
theorem digB_empty {d : ByteArray} {n : Bool} (h : d.size = 0) : digB d n = none := by unfold digB; rw [if_pos h]
theorem digB_long {d : ByteArray} {n : Bool} (h : 17 < d.size) : digB d n = none := by unfold digB; rw [if_neg (by omega), if_pos h]
theorem digB_zero {d : ByteArray} {n : Bool} (h : 0 < d.size) (hc : d[0].toNat = 48) (h1 : 1 < d.size ∨ n = true) : digB d n = none := by
  unfold digB
  rw [if_neg (by omega)]
  by_cases h17 : 17 < d.size
  · rw [if_pos h17]
  · rw [if_neg h17, if_pos ⟨by rw [hdB_get h, hc], h1⟩]
theorem digB_go {d : ByteArray} {n : Bool} (h : 0 < d.size) (h17 : d.size ≤ 17) (hc : ¬ (d[0].toNat = 48 ∧ (1 < d.size ∨ n = true))) : digB d n = Lib.decFrom 0 d.data.toList := by
  unfold digB
  rw [if_neg (by omega), if_neg (by omega), if_neg (by rw [hdB_get h]; exact fun e => hc ⟨Option.some.inj e.1, e.2⟩)]
/-- What the loop keeps. -/
def NumInv (d : ByteArray) (k m : Nat) : Prop := Lib.decFrom 0 (d.data.toList.take k) = some m
theorem NumInv.start (d : ByteArray) : NumInv d 0 0 := by unfold NumInv; rw [List.take_zero]; rfl
theorem NumInv.step {d : ByteArray} {k m : Nat} (h : NumInv d k m) (hk : k < d.size) (h0 : 48 ≤ d[k].toNat) (h1 : d[k].toNat ≤ 57) : NumInv d (k + 1) (m * 10 + (d[k].toNat - 48)) :=
  Lib.decFrom_take _ k 0 m d[k] _ h (byte_at hk) (by unfold Lib.digitVal; rw [if_pos ⟨h0, h1⟩])
theorem NumInv.bad {d : ByteArray} {k : Nat} (hk : k < d.size) (hc : ¬ (48 ≤ d[k].toNat ∧ d[k].toNat ≤ 57)) : Lib.decFrom 0 d.data.toList = none := by
  cases h : Lib.decFrom 0 d.data.toList with
  | none => rfl
  | some n =>
    obtain ⟨e, he⟩ := Lib.digit_of_decFrom _ 0 n h k d[k] (byte_at hk)
    exact absurd ⟨(Lib.digitVal_eq he).1, (Lib.digitVal_eq he).2.1⟩ hc
theorem NumInv.done {d : ByteArray} {k m : Nat} (h : NumInv d k m) (hk : d.size ≤ k) : Lib.decFrom 0 d.data.toList = some m := by
  unfold NumInv at h; rwa [List.take_of_length_le (by rw [ba_len]; exact hk)] at h
theorem NumInv.lt {d : ByteArray} {k m : Nat} (h : NumInv d k m) (hk : k ≤ 17) : m < 100000000000000000 := Lib.decFrom_take_lt h hk
theorem digB_lt {d : ByteArray} {n : Bool} {m : Nat} (h : digB d n = some m) : m < 100000000000000000 := by
  unfold digB at h
  split at h
  · cases h
  · split at h
    · cases h
    · split at h
      · cases h
      · rename_i h17 _
        refine Lib.decFrom_take_lt (l := d.data.toList) (k := 17) ?_ (Nat.le_refl _)
        rw [List.take_of_length_le (by rw [ba_len]; omega)]; exact h
/-- At most 17 digits. -/
def S17 (n : Int) : Prop := -100000000000000000 < n ∧ n < 100000000000000000
theorem S17.inB {n : Int} (h : S17 n) : InB n := by unfold S17 at h; unfold InB; omega
theorem numB_small {s : ByteArray} {n : Int} (h : numB s = some n) : S17 n := by
  unfold S17
  unfold numB at h
  split at h
  · obtain ⟨m, hd, rfl⟩ := Option.map_eq_some_iff.1 h
    have := digB_lt hd
    omega
  · obtain ⟨m, hd, rfl⟩ := Option.map_eq_some_iff.1 h
    have := digB_lt hd
    omega
end Go.Proofs.YthbnbofoefdneaaDoor
