/- The text of a valid operation is parsed back to it. No program in sight. -/
import Derived.Test.YthbnbofoefdneaaDoorParIP
import Derived.Test.YthbnbofoefdneaaDoorOpPlain
import Derived.Test.YthbnbofoefdneaaDoorDrawOp
namespace Go.Proofs.YthbnbofoefdneaaDoor
open Go.RowKit
set_option linter.unusedSimpArgs false
set_option linter.unusedVariables false
theorem cutL_plain (c : UInt8) : ∀ (x : List UInt8), c ∉ x → cutL c x = [x]
  | [], _ => rfl
  | b :: l, h => by
    have h1 : ¬ b = c := fun e => h (by rw [e]; exact List.mem_cons_self)
    have h2 := cutL_plain c l (fun e => h (List.mem_cons_of_mem _ e))
    simp only [cutL, if_neg h1, h2, headApp]; rfl
theorem cutL_piece (c : UInt8) (y : List UInt8) : ∀ (x : List UInt8), c ∉ x → cutL c (x ++ c :: y) = x :: cutL c y
  | [], _ => by simp [cutL]
  | b :: l, h => by
    have h1 : ¬ b = c := fun e => h (by rw [e]; exact List.mem_cons_self)
    have h2 := cutL_piece c y l (fun e => h (List.mem_cons_of_mem _ e))
    simp only [List.cons_append, cutL, if_neg h1, h2, headApp]; rfl
theorem cutL_of (c : UInt8) : ∀ (r : List (List UInt8)) (x : List UInt8), c ∉ x → (∀ y ∈ r, c ∉ y) → cutL c (x ++ r.flatMap (fun y => c :: y)) = x :: r
  | [], x, h, _ => by simpa using cutL_plain c x h
  | y :: r, x, h, hr => by
    rw [List.flatMap_cons, List.cons_append, cutL_piece c _ x h, cutL_of c r y (hr y List.mem_cons_self) (fun z hz => hr z (List.mem_cons_of_mem _ hz))]
theorem word_32 {k : Int} (h : Kd k) : (32 : UInt8) ∉ (wordB k).data.toList := by
  rcases kd_ten h with rfl | rfl | rfl | rfl | rfl | rfl | rfl | rfl | rfl | rfl <;> decide
theorem digits_32 (m : Nat) : (32 : UInt8) ∉ Lib.decDigits m := by
  intro h
  obtain ⟨i, hi⟩ := List.mem_iff_getElem?.1 h
  obtain ⟨d, hd⟩ := Lib.digit_of_decFrom _ 0 m (decFrom_digits m) i 32 hi
  obtain ⟨h1, _⟩ := Lib.digitVal_eq hd
  have : ((32 : UInt8).toNat) = 32 := rfl
  omega
theorem decB_data (m : Nat) : (decB m).data.toList = Lib.decDigits m := rfl
theorem itoa_32 (n : Int) : (32 : UInt8) ∉ (itoaB n).data.toList := by
  by_cases h : 0 ≤ n
  · obtain ⟨m, rfl⟩ := Int.eq_ofNat_of_zero_le h
    rw [itoaB_nn]
    exact digits_32 m
  · obtain ⟨m, hm⟩ : ∃ m : Nat, -n = m := ⟨(-n).toNat, by omega⟩
    obtain rfl : n = -(m : Int) := by omega
    rw [itoaB_neg m (by omega), ba_append]
    intro e
    rcases List.mem_append.1 e with e | e
    · revert e; decide
    · exact digits_32 m e
theorem numsL_itoa : ∀ {ns : List Int}, (∀ n ∈ ns, S17 n) → numsL (ns.map itoaB) = some ns
  | [], _ => rfl
  | n :: r, h => by
    rw [List.map_cons, numsL, numB_itoa (h n List.mem_cons_self), Option.bind_some, numsL_itoa (fun m hm => h m (List.mem_cons_of_mem _ hm))]; rfl
theorem cut_op {x : OpT} {ns : List Int} (hk : Kd x.1) (hm : makeB x.1 ns = some x) : cutB (opText x) 32 = wordB x.1 :: ns.map itoaB := by
  have h1 := cutB_data (opText x) 32
  rw [show ((32 : UInt8).toNat : Int) = 32 from rfl, makeB_text hk hm] at h1
  apply map_data_inj
  rw [h1]
  have h2 := cutL_of 32 ((ns.map itoaB).map (·.data.toList)) (wordB x.1).data.toList (word_32 hk) (fun y hy => by
    obtain ⟨z, hz, rfl⟩ := List.mem_map.1 hy
    obtain ⟨n, _, rfl⟩ := List.mem_map.1 hz
    exact itoa_32 n)
  rw [List.flatMap_map] at h2
  rw [h2]; rfl
theorem parB_of {x : OpT} {ns : List Int} (hk : Kd x.1) (hm : makeB x.1 ns = some x) (hs : ∀ n ∈ ns, S17 n) : ParB (opText x) x := by
  refine ⟨hk, ns, ?_, ?_, ?_⟩
  · rw [cut_op hk hm]; exact numsL_itoa hs
  · rcases Classical.em (argsN x.1 = 2) with ha | ha
    · have := (makeB_len hm).1 ha; omega
    · have := (makeB_len hm).2 ha; omega
  · exact ⟨by rw [cut_op hk hm]; rfl, hm, rfl⟩
theorem opSmall.s17 {x : OpT} (h : opSmall x) : S17 x.2.1 ∧ S17 x.2.2 := by
  obtain ⟨_, h1, h2⟩ := h; unfold S17; omega
/-- A valid operation is read back. -/
theorem parB_valid {c : ProgD} {x : OpT} (h : OpOk c x) (hs : opSmall x) : ParB (opText x) x := by
  obtain ⟨k, a, b⟩ := x
  have hk := hs.1
  obtain ⟨s1, s2⟩ := hs.s17
  dsimp only at s1 s2
  rcases argsN_three k with ha | ha | ha
  · have h0 : a = 0 := by
      rcases h with ⟨_, h, _⟩ | ⟨h, _⟩ | ⟨h, _⟩ | ⟨h, _⟩ | ⟨h, _⟩ | ⟨h, _⟩ | ⟨h, _⟩ | ⟨h, _⟩
      · exact h
      all_goals (exfalso; dsimp only at h; unfold argsN at ha; revert ha; (first | (rcases h with rfl | rfl <;> decide) | (subst h; decide)))
    subst h0
    exact parB_of (ns := [b]) hk (by simp [makeB, ha]) (fun n hn => by rw [List.mem_singleton.1 hn]; exact s2)
  · have h0 : b = 0 := by
      rcases h with ⟨h, _⟩ | ⟨h, _⟩ | ⟨h, _⟩ | ⟨h, _⟩ | ⟨_, _, _, h⟩ | ⟨_, _, _, h⟩ | ⟨h, _⟩ | ⟨_, _, _, h⟩
      · exfalso; dsimp only at h; subst h; revert ha; decide
      · exfalso; dsimp only at h; revert ha; rcases h with rfl | rfl <;> decide
      · exfalso; dsimp only at h; subst h; revert ha; decide
      · exfalso; dsimp only at h; subst h; revert ha; decide
      · exact h
      · exact h
      · exfalso; dsimp only at h; subst h; revert ha; decide
      · exact h
    subst h0
    exact parB_of (ns := [a]) hk (by simp [makeB, ha]) (fun n hn => by rw [List.mem_singleton.1 hn]; exact s1)
  · exact parB_of (ns := [a, b]) hk (by simp [makeB, ha]) (fun n hn => by
      simp only [List.mem_cons, List.not_mem_nil, or_false] at hn
      rcases hn with rfl | rfl
      · exact s1
      · exact s2)
end Go.Proofs.YthbnbofoefdneaaDoor
