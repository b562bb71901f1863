/- A number of at most 17 digits, as the program's parseNumber finds it: the reference's. No program in sight. -/
import Derived.Test.YthbnbofoefdneaaDoorNumL
import Derived.Lib.Strings
namespace Go.Proofs.YthbnbofoefdneaaDoor
open Go.RowKit
set_option linter.unusedSimpArgs false
set_option linter.unusedVariables false
/-- The text without a minus sign. -/
def dgs (s : ByteArray) : List UInt8 := Lib.trimPrefix s.data.toList [45]
theorem dgs_minus {s : ByteArray} {r : List UInt8} (h : s.data.toList = 45 :: r) : dgs s = r := by
  unfold dgs; rw [h]; simp [Lib.trimPrefix, Lib.hasPrefix, List.isPrefixOf]
theorem dgs_plain {s : ByteArray} {b : UInt8} {r : List UInt8} (h : s.data.toList = b :: r) (hb : b ≠ 45) : dgs s = b :: r := by
  unfold dgs; rw [h]
  have : ([45] : List UInt8).isPrefixOf (b :: r) = false := by simp [List.isPrefixOf, Ne.symm hb]
  simp [Lib.trimPrefix, Lib.hasPrefix, this]
theorem dgs_nil {s : ByteArray} (h : s.data.toList = []) : dgs s = [] := by
  unfold dgs; rw [h]; rfl
theorem dgs_len (s : ByteArray) : s.size ≤ (dgs s).length + 1 := by
  rw [← ba_len]
  cases h : s.data.toList with
  | nil => simp
  | cons b r =>
    by_cases hb : b = 45
    · subst hb; rw [dgs_minus h]; simp
    · rw [dgs_plain h hb]; simp
theorem digB_parts {d : ByteArray} {n : Bool} {m : Nat} (h : digB d n = some m) : 0 < d.size ∧ d.size ≤ 17 ∧ Lib.decFrom 0 d.data.toList = some m := by
  unfold digB at h
  split at h
  · cases h
  · split at h
    · cases h
    · split at h
      · cases h
      · exact ⟨by omega, by omega, h⟩
theorem decNat_of {l : List UInt8} {m : Nat} (h0 : 0 < l.length) (h : Lib.decFrom 0 l = some m) : Lib.decNat l = some m := by
  unfold Lib.decNat
  cases l with
  | nil => cases h0
  | cons b r => simpa using h
theorem hdB_cons {s : ByteArray} {b : UInt8} {r : List UInt8} (h : s.data.toList = b :: r) : hdB s = some b.toNat := by unfold hdB; rw [h]; rfl
/-- Where the reference finds a number, the program finds it. -/
theorem numB_in {s : ByteArray} {n : Int} (h : numB s = some n) : 1 ≤ (dgs s).length ∧ (dgs s).length ≤ 17 ∧ Lib.atoi s.data.toList = some n := by
  cases hs : s.data.toList with
  | nil =>
    exfalso
    have hz : s.size = 0 := by rw [← ba_len, hs]; rfl
    rw [numB_pos (fun h0 => by omega), digB_empty hz] at h
    cases h
  | cons b r =>
    have hh := hdB_cons hs
    by_cases hb : b = 45
    · subst hb
      unfold numB at h
      rw [hh, if_pos (show some (UInt8.toNat 45) = some 45 from rfl)] at h
      obtain ⟨m, hd, rfl⟩ := Option.map_eq_some_iff.1 h
      obtain ⟨k1, k2, k3⟩ := digB_parts hd
      have he : (s.extract 1 s.size).data.toList = r := by rw [Lib.extract_to_end, hs]; rfl
      rw [← ba_len, he] at k1 k2
      rw [he] at k3
      rw [dgs_minus hs]
      exact ⟨k1, k2, by simp [Lib.atoi, decNat_of k1 k3]⟩
    · unfold numB at h
      rw [hh, if_neg (by intro e; exact hb (UInt8.toNat_inj.1 (Option.some.inj e)))] at h
      obtain ⟨m, hd, rfl⟩ := Option.map_eq_some_iff.1 h
      obtain ⟨k1, k2, k3⟩ := digB_parts hd
      rw [← ba_len] at k1 k2
      rw [hs] at k1 k2 k3
      rw [dgs_plain hs hb]
      refine ⟨k1, k2, ?_⟩
      have e1 : (b == 45) = false := beq_eq_false_iff_ne.2 hb
      have e2 : (b == 43) = false := beq_eq_false_iff_ne.2 (fun e => by subst e; simp [Lib.decFrom, Lib.digitVal] at k3)
      simp only [Lib.atoi, e1, e2, decNat_of k1 k3]; rfl
theorem atoi_S17 {s : ByteArray} {n : Int} (h : Lib.atoi s.data.toList = some n) (hl : (dgs s).length ≤ 17) : S17 n := by
  have key : ∀ (l : List UInt8) (m : Nat), Lib.decNat l = some m → l.length ≤ 17 → m < 100000000000000000 := fun l m hm hl' => by
    refine Lib.decFrom_take_lt (l := l) (k := 17) ?_ (Nat.le_refl _)
    rw [List.take_of_length_le hl']
    exact (Lib.decNat_some hm).2
  unfold S17
  cases hs : s.data.toList with
  | nil => rw [hs] at h; cases h
  | cons b r =>
    rw [hs] at h
    by_cases hb : b = 45
    · subst hb
      rw [dgs_minus hs] at hl
      simp only [Lib.atoi, beq_self_eq_true, if_true] at h
      obtain ⟨m, hm, rfl⟩ := Option.map_eq_some_iff.1 h
      have := key r m hm hl
      omega
    · rw [dgs_plain hs hb] at hl
      have e1 : (b == 45) = false := beq_eq_false_iff_ne.2 hb
      by_cases hc : b = 43
      · subst hc
        simp only [Lib.atoi, e1, beq_self_eq_true, if_true, Bool.false_eq_true, if_false] at h
        obtain ⟨m, hm, rfl⟩ := Option.map_eq_some_iff.1 h
        have := key r m hm (by simp at hl; omega)
        omega
      · have e2 : (b == 43) = false := beq_eq_false_iff_ne.2 hc
        simp only [Lib.atoi, e1, e2, Bool.false_eq_true, if_false] at h
        obtain ⟨m, hm, rfl⟩ := Option.map_eq_some_iff.1 h
        have := key _ m hm hl
        omega
theorem numI_short {s : ByteArray} (h : (dgs s).length < 1) : numB s = none := by
  cases hn : numB s with
  | none => rfl
  | some n => have := (numB_in hn).1; omega
theorem numI_long {s : ByteArray} (h : 17 < (dgs s).length) : numB s = none := by
  cases hn : numB s with
  | none => rfl
  | some n => have := (numB_in hn).2.1; omega
theorem numI_bad {s : ByteArray} (h : Lib.atoi s.data.toList = none) : numB s = none := by
  cases hn : numB s with
  | none => rfl
  | some n => rw [(numB_in hn).2.2] at h; cases h
theorem numI_other {s : ByteArray} {n : Int} (h : Lib.atoi s.data.toList = some n) (hne : ¬ itoaB n = s) : numB s = none := by
  cases hn : numB s with
  | none => rfl
  | some m =>
    have h1 := (numB_in hn).2.2
    rw [h] at h1
    obtain rfl := Option.some.inj h1
    exact absurd (numB_some hn) hne
theorem numI_hit {s : ByteArray} {n : Int} (h : Lib.atoi s.data.toList = some n) (hl : (dgs s).length ≤ 17) (he : itoaB n = s) : numB s = some n := by
  have := numB_itoa (atoi_S17 h hl)
  rwa [he] at this
end Go.Proofs.YthbnbofoefdneaaDoor
