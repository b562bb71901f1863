/- A canonical numeral of at most 17 digits is the numeral of its number, and back. No program in sight. -/
import Derived.Test.YthbnbofoefdneaaDoorNumP
import Derived.Lib.IndexBytes
namespace Go.Proofs.YthbnbofoefdneaaDoor
open Go.RowKit
set_option linter.unusedSimpArgs false
set_option linter.unusedVariables false
theorem decFrom_snoc : ∀ (l : List UInt8) (acc : Nat) (b : UInt8), Lib.decFrom acc (l ++ [b]) = (Lib.decFrom acc l).bind fun m => (Lib.digitVal b).map fun d => m * 10 + d
  | [], acc, b => by
    simp only [List.nil_append, Lib.decFrom, Option.bind_some]
    cases Lib.digitVal b <;> rfl
  | a :: r, acc, b => by
    simp only [List.cons_append, Lib.decFrom]
    cases Lib.digitVal a with
    | none => rfl
    | some d => exact decFrom_snoc r _ b
theorem snoc_of_ne {α : Type} {l : List α} (h : l ≠ []) : ∃ r b, l = r ++ [b] := ⟨l.dropLast, l.getLast h, (List.dropLast_concat_getLast h).symm⟩
theorem digit_u8 {b : UInt8} {d : Nat} (h : Lib.digitVal b = some d) : d ≤ 9 ∧ b = UInt8.ofNat (48 + d) := by
  obtain ⟨h1, h2, h3⟩ := Lib.digitVal_eq h
  refine ⟨by omega, ?_⟩
  apply UInt8.toNat_inj.1
  rw [UInt8.toNat_ofNat']
  omega
theorem digitVal_of {d : Nat} (h : d ≤ 9) : Lib.digitVal (UInt8.ofNat (48 + d)) = some d := by
  have e : (UInt8.ofNat (48 + d)).toNat = 48 + d := by rw [UInt8.toNat_ofNat']; omega
  unfold Lib.digitVal
  rw [e, if_pos ⟨by omega, by omega⟩, show 48 + d - 48 = d by omega]
/-- Digits, of which the first is no zero unless it is the only one: they are their number's numeral. -/
theorem decDigits_of : ∀ (k : Nat) (l : List UInt8) (m : Nat), l.length = k + 1 → Lib.decFrom 0 l = some m → ((l[0]?).map (·.toNat) = some 48 → l.length = 1) → Lib.decDigits m = l ∧ (2 ≤ l.length → 1 ≤ m)
  | 0, l, m, hl, hd, h0 => by
    match l, hl with
    | [b], _ =>
      simp only [Lib.decFrom] at hd
      cases hv : Lib.digitVal b with
      | none => rw [hv] at hd; cases hd
      | some d =>
        rw [hv] at hd
        simp only [Nat.zero_mul, Nat.zero_add, Option.some.injEq] at hd
        subst hd
        obtain ⟨h9, hb⟩ := digit_u8 hv
        exact ⟨by rw [Lib.decDigits_one (by omega), hb], fun h => by simp at h⟩
  | k + 1, l, m, hl, hd, h0 => by
    obtain ⟨r, b, rfl⟩ := snoc_of_ne (l := l) (by intro e; rw [e] at hl; cases hl)
    have hr : r.length = k + 1 := by simpa using hl
    have hne : ¬ ((r[0]?).map (·.toNat) = some 48) := by
      intro e
      have := h0 (by rw [List.getElem?_append_left (by omega)]; exact e)
      rw [List.length_append, List.length_singleton] at this; omega
    rw [decFrom_snoc] at hd
    cases hm : Lib.decFrom 0 r with
    | none => rw [hm] at hd; cases hd
    | some m' =>
      rw [hm] at hd
      cases hv : Lib.digitVal b with
      | none => rw [hv] at hd; cases hd
      | some d =>
        rw [hv] at hd
        simp only [Option.bind_some, Option.map_some, Option.some.injEq] at hd
        obtain ⟨h9, hb⟩ := digit_u8 hv
        obtain ⟨i1, i2⟩ := decDigits_of k r m' hr hm (fun e => absurd e hne)
        have hm1 : 1 ≤ m' := by
          rcases Nat.lt_or_ge r.length 2 with h | h
          · obtain ⟨a, rfl⟩ : ∃ a, r = [a] := List.length_eq_one_iff.1 (by omega)
            simp only [Lib.decFrom] at hm
            cases hva : Lib.digitVal a with
            | none => rw [hva] at hm; cases hm
            | some e =>
              rw [hva] at hm
              simp only [Nat.zero_mul, Nat.zero_add, Option.some.injEq] at hm
              subst hm
              obtain ⟨q1, q2, q3⟩ := Lib.digitVal_eq hva
              simp at hne
              omega
          · exact i2 h
        subst hd
        refine ⟨?_, fun _ => by omega⟩
        rw [Lib.decDigits, dif_neg (by omega), show (m' * 10 + d) / 10 = m' by omega, show (m' * 10 + d) % 10 = d by omega, i1, hb]
theorem decFrom_digits (m : Nat) : Lib.decFrom 0 (Lib.decDigits m) = some m := by
  induction m using Nat.strongRecOn with
  | _ m ih =>
    by_cases h : m < 10
    · rw [Lib.decDigits_one h]
      simp only [Lib.decFrom, digitVal_of (show m ≤ 9 by omega)]
      simp
    · rw [Lib.decDigits, dif_neg h, decFrom_snoc, ih (m / 10) (by omega)]
      simp only [Option.bind_some, digitVal_of (show m % 10 ≤ 9 by omega), Option.map_some]
      congr 1; omega
theorem nDigits_le : ∀ (k m : Nat), m < 10 ^ (k + 1) → Lib.nDigits m ≤ k + 1
  | 0, m, h => by rw [Lib.nDigits_small (by simpa using h)]; omega
  | k + 1, m, h => by
    by_cases h10 : m < 10
    · rw [Lib.nDigits_small h10]; omega
    · rw [Lib.nDigits_big h10]
      have := nDigits_le k (m / 10) (by rw [Nat.pow_succ] at h; omega)
      omega
theorem digits_head (m : Nat) (h : 1 ≤ m) : ¬ ((Lib.decDigits m)[0]?).map (·.toNat) = some 48 := by
  induction m using Nat.strongRecOn with
  | _ m ih =>
    by_cases h10 : m < 10
    · rw [Lib.decDigits_one h10]
      simp only [List.getElem?_cons_zero, Option.map_some, Option.some.injEq, UInt8.toNat_ofNat']
      omega
    · rw [Lib.decDigits, dif_neg h10]
      have hp : 0 < (Lib.decDigits (m / 10)).length := by rw [Lib.decDigits_length]; exact Lib.nDigits_pos _
      rw [List.getElem?_append_left hp]
      exact ih (m / 10) (by omega) (by omega)
theorem digB_some {d : ByteArray} {n : Bool} {m : Nat} (h : digB d n = some m) : decB m = d ∧ (n = true → 1 ≤ m) ∧ 0 < d.size := by
  have hm := h
  unfold digB at h
  split at h
  · cases h
  · rename_i h0
    split at h
    · cases h
    · split at h
      · cases h
      · rename_i h17 hc
        obtain ⟨k, hk⟩ : ∃ k, d.data.toList.length = k + 1 := ⟨d.size - 1, by rw [ba_len]; omega⟩
        have key := decDigits_of k _ m hk h (fun e => by
          rw [ba_len]
          rcases Nat.lt_or_ge 1 d.size with h1 | h1
          · exact absurd ⟨e, .inl h1⟩ hc
          · omega)
        refine ⟨ba_ext (by rw [decB_list]; exact key.1), fun hn => ?_, by omega⟩
        rcases Nat.lt_or_ge 1 d.size with h1 | h1
        · exact key.2 (by rw [ba_len]; omega)
        · rcases Nat.eq_zero_or_pos m with rfl | hp
          · exfalso
            refine hc ⟨?_, .inr hn⟩
            unfold hdB
            rw [← key.1, Lib.decDigits_one (by omega)]; rfl
          · exact hp
theorem decB_digB {m : Nat} {n : Bool} (h : m < 100000000000000000) (hn : n = true → 1 ≤ m) : digB (decB m) n = some m := by
  have hs : (decB m).size = Lib.nDigits m := by rw [← ba_len, decB_list, Lib.decDigits_length]
  have h1 := Lib.nDigits_pos m
  have h2 := nDigits_le 16 m (by have e : (10 : Nat) ^ (16 + 1) = 100000000000000000 := by decide
                                 omega)
  unfold digB
  rw [if_neg (by omega), if_neg (by omega), if_neg, decB_list, decFrom_digits]
  rintro ⟨e, h3⟩
  rcases Nat.eq_zero_or_pos m with rfl | hp
  · rcases h3 with h3 | h3
    · rw [hs, Lib.nDigits_small (by omega)] at h3; omega
    · have := hn h3; omega
  · exact digits_head m hp e
theorem numB_itoa {n : Int} (h : S17 n) : numB (itoaB n) = some n := by
  obtain ⟨h1, h2⟩ := h
  by_cases hn : 0 ≤ n
  · obtain ⟨m, rfl⟩ := Int.eq_ofNat_of_zero_le hn
    rw [itoaB_nn]
    have key := decB_digB (m := m) (n := false) (by omega) (fun e => by cases e)
    rw [numB_pos, key]
    · rfl
    · intro h0
      obtain ⟨d, hd⟩ := Lib.digit_of_decFrom _ 0 m (decFrom_digits m) 0 (decB m)[0] (by rw [← decB_list]; exact byte_at h0)
      have := (Lib.digitVal_eq hd).1
      omega
  · obtain ⟨m, hm⟩ : ∃ m : Nat, -n = m := ⟨(-n).toNat, by omega⟩
    obtain rfl : n = -(m : Int) := by omega
    rw [itoaB_neg m (by omega)]
    have key := decB_digB (m := m) (n := true) (by omega) (fun _ => by omega)
    have hz : 0 < ((⟨#[45]⟩ : ByteArray) ++ decB m).size := by rw [ByteArray.size_append]; show 0 < 1 + _; omega
    have hb : (((⟨#[45]⟩ : ByteArray) ++ decB m)[0]'hz).toNat = 45 := by
      have e : ((⟨#[45]⟩ : ByteArray) ++ decB m).data.toList[0]? = some 45 := by rw [ba_append]; rfl
      rw [byte_at hz] at e
      rw [Option.some.inj e]; rfl
    have he : (((⟨#[45]⟩ : ByteArray) ++ decB m).extract 1 ((⟨#[45]⟩ : ByteArray) ++ decB m).size) = decB m := by
      apply ba_ext
      rw [Lib.extract_to_end, ba_append]; rfl
    rw [numB_neg hz hb, he, key]; rfl
theorem numB_some {s : ByteArray} {n : Int} (h : numB s = some n) : itoaB n = s := by
  by_cases h0 : 0 < s.size ∧ ∀ h : 0 < s.size, s[0].toNat = 45
  · obtain ⟨hz, hb⟩ := h0
    have hb := hb hz
    rw [numB_neg hz hb] at h
    cases hd : digB (s.extract 1 s.size) true with
    | none => rw [hd] at h; cases h
    | some m =>
      rw [hd] at h
      simp only [Option.map_some, Option.some.injEq] at h
      subst h
      obtain ⟨k1, k2, k3⟩ := digB_some hd
      rw [itoaB_neg m (k2 rfl), k1]
      apply ba_ext
      rw [ba_append, Lib.extract_to_end]
      have hl : s.data.toList = s[0] :: s.data.toList.drop 1 := by
        have := List.drop_eq_getElem_cons (l := s.data.toList) (i := 0) (by rw [ba_len]; exact hz)
        rw [List.drop_zero] at this
        exact this
      have e45 : s[0] = 45 := UInt8.toNat_inj.1 (by rw [hb]; rfl)
      conv => rhs; rw [hl, e45]
      rfl
  · have hp : ∀ h : 0 < s.size, s[0].toNat ≠ 45 := fun hz e => h0 ⟨hz, fun _ => e⟩
    rw [numB_pos hp] at h
    cases hd : digB s false with
    | none => rw [hd] at h; cases h
    | some m =>
      rw [hd] at h
      simp only [Option.map_some, Option.some.injEq] at h
      subst h
      rw [itoaB_nn, (digB_some hd).1]
end Go.Proofs.YthbnbofoefdneaaDoor
