/- The texts of operations, in plain terms (made by gen_optext.py). No program in sight. -/
import Derived.Test.YthbnbofoefdneaaDoorTextP
import Derived.Test.YthbnbofoefdneaaDoorG1
namespace Go.Proofs.YthbnbofoefdneaaDoor
open Go.RowKit
set_option linter.unusedSimpArgs false
set_option linter.unusedVariables false
def InB (n : Int) : Prop := -9223372036854775808 ≤ n ∧ n ≤ 9223372036854775807
def Kd (k : Int) : Prop := 1 ≤ k ∧ k ≤ 10
instance (k : Int) : Decidable (Kd k) := by unfold Kd; infer_instance
def wordB (k : Int) : ByteArray := if k = 1 then ⟨#[115, 97, 121]⟩ else if k = 2 then ⟨#[97, 99, 113, 117, 105, 114, 101]⟩ else if k = 3 then ⟨#[114, 101, 108, 101, 97, 115, 101]⟩ else if k = 4 then ⟨#[111, 110, 99, 101]⟩ else if k = 5 then ⟨#[97, 100, 100]⟩ else if k = 6 then ⟨#[119, 97, 105, 116]⟩ else if k = 7 then ⟨#[97, 114, 114, 105, 118, 101]⟩ else if k = 8 then ⟨#[115, 101, 110, 100]⟩ else if k = 9 then ⟨#[103, 101, 116]⟩ else if k = 10 then ⟨#[99, 108, 111, 115, 101]⟩ else ⟨#[]⟩
def argsN (k : Int) : Int := if k = 6 then 1 else if k = 7 then 1 else if k = 9 then 1 else if k = 10 then 1 else if k = 1 then 0 else 2
def spB : ByteArray := ⟨#[32]⟩
def opText (x : OpT) : ByteArray :=
  if Kd x.1 then
    if argsN x.1 = 0 then wordB x.1 ++ spB ++ itoaB x.2.2
    else if argsN x.1 = 1 then wordB x.1 ++ spB ++ itoaB x.2.1
    else wordB x.1 ++ spB ++ itoaB x.2.1 ++ spB ++ itoaB x.2.2
  else ⟨#[]⟩
theorem kd_ten {k : Int} (h : Kd k) : k = 1 ∨ k = 2 ∨ k = 3 ∨ k = 4 ∨ k = 5 ∨ k = 6 ∨ k = 7 ∨ k = 8 ∨ k = 9 ∨ k = 10 := by unfold Kd at h; omega
theorem wordB_size {k : Int} (h : Kd k) : 0 < (wordB k).size ∧ (wordB k).size ≤ 7 := by
  rcases kd_ten h with rfl | rfl | rfl | rfl | rfl | rfl | rfl | rfl | rfl | rfl <;> exact ⟨by decide, by decide⟩
theorem wordB_none {k : Int} (h : ¬ Kd k) : wordB k = ⟨#[]⟩ := by
  unfold Kd at h
  unfold wordB
  rw [if_neg (by omega), if_neg (by omega), if_neg (by omega), if_neg (by omega), if_neg (by omega), if_neg (by omega), if_neg (by omega), if_neg (by omega), if_neg (by omega), if_neg (by omega)]
theorem argsN_three (k : Int) : argsN k = 0 ∨ argsN k = 1 ∨ argsN k = 2 := by
  unfold argsN; repeat' split
  all_goals omega
theorem nonempty {s : ByteArray} (h : 0 < s.size) : s.toList.isEmpty = false := by
  rw [ByteArray.toList_eq]
  have e : s.data.toList.length = s.size := by rw [Array.length_toList]; rfl
  cases h2 : s.data.toList with
  | nil => rw [h2] at e; simp at e; omega
  | cons a r => rfl
theorem opText_none {x : OpT} (h : ¬ Kd x.1) : opText x = ⟨#[]⟩ := by unfold opText; rw [if_neg h]
theorem opText_0 {x : OpT} (h : Kd x.1) (ha : argsN x.1 = 0) : opText x = wordB x.1 ++ spB ++ itoaB x.2.2 := by unfold opText; rw [if_pos h, if_pos ha]
theorem opText_1 {x : OpT} (h : Kd x.1) (ha : argsN x.1 = 1) : opText x = wordB x.1 ++ spB ++ itoaB x.2.1 := by unfold opText; rw [if_pos h, if_neg (by omega), if_pos ha]
theorem opText_2 {x : OpT} (h : Kd x.1) (ha : argsN x.1 = 2) : opText x = wordB x.1 ++ spB ++ itoaB x.2.1 ++ spB ++ itoaB x.2.2 := by unfold opText; rw [if_pos h, if_neg (by omega), if_neg (by omega)]
theorem opText_size {x : OpT} (h1 : InB x.2.1) (h2 : InB x.2.2) : (opText x).size ≤ 60 := by
  have a := itoaB_size h1.1 h1.2
  have b := itoaB_size h2.1 h2.2
  have c : spB.size = 1 := rfl
  unfold opText
  split
  · rename_i h
    have := (wordB_size h).2
    split
    · simp only [ByteArray.size_append]; omega
    · split
      · simp only [ByteArray.size_append]; omega
      · simp only [ByteArray.size_append]; omega
  · decide
end Go.Proofs.YthbnbofoefdneaaDoor
