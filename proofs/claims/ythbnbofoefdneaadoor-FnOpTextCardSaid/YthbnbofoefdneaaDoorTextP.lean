/- The decimal numeral of a number, in plain terms: what the reference's loop keeps. No program in sight. -/
import Derived.Lib.ItoaMem
import Derived.Lib.ItoaLen
import Derived.Laws.BytesArg
import Derived.Test.YthbnbofoefdneaaDoorG1
namespace Go.Proofs.YthbnbofoefdneaaDoor
open Go.RowKit
set_option linter.unusedSimpArgs false
set_option linter.unusedVariables false
def decB (n : Nat) : ByteArray := ⟨(Lib.decDigits n).toArray⟩
def itoaB (n : Int) : ByteArray := ⟨(Lib.itoa n).toArray⟩
theorem ba_ext {a b : ByteArray} (h : a.data.toList = b.data.toList) : a = b := ByteArray.ext (Array.toList_inj.1 h)
theorem ba_append (a b : ByteArray) : (a ++ b).data.toList = a.data.toList ++ b.data.toList := by simp [ByteArray.data_append]
theorem decB_list (n : Nat) : (decB n).data.toList = Lib.decDigits n := rfl
theorem itoaB_list (n : Int) : (itoaB n).data.toList = Lib.itoa n := rfl
theorem itoaB_nn (n : Nat) : itoaB n = decB n := ba_ext (by rw [itoaB_list, decB_list, Lib.itoa_nonneg])
theorem itoaB_neg (n : Nat) (h : 1 ≤ n) : itoaB (-(n : Int)) = ⟨#[45]⟩ ++ decB n := ba_ext (by rw [itoaB_list, ba_append, decB_list, Lib.itoa_neg n h]; rfl)
theorem decB_last {n : Nat} (h : ¬ 9 < n) : decB n = strOfNums [(48 + n : Int)] := by
  apply ba_ext
  rw [decB_list, strOfNums_data, Lib.decDigits, dif_pos (by omega), List.map_cons, List.map_nil, show ((48 + n : Int)).toNat = 48 + n by omega]
theorem decB_step {n : Nat} (h : 9 < n) : decB n = decB (n / 10) ++ strOfNums [(48 + n % 10 : Int)] := by
  apply ba_ext
  rw [ba_append, decB_list, decB_list, strOfNums_data]
  conv => lhs; rw [Lib.decDigits, dif_neg (by omega)]
  rw [List.map_cons, List.map_nil, show ((48 + n % 10 : Int)).toNat = 48 + n % 10 by omega]
theorem decB_size (n : Nat) (h : n ≤ 9223372036854775808) : (decB n).size ≤ 20 := by
  have := Lib.nDigits_le20 n (by omega)
  have e : (decB n).size = (Lib.decDigits n).length := by simp [decB, ByteArray.size]
  rw [e, Lib.decDigits_length]; exact this
theorem itoaB_size {n : Int} (h0 : -9223372036854775808 ≤ n) (h1 : n ≤ 9223372036854775807) : (itoaB n).size ≤ 21 := by
  have := Lib.itoa_length_le n h0 h1
  have e : (itoaB n).size = (Lib.itoa n).length := by simp [itoaB, ByteArray.size]
  rw [e]; exact this
theorem itoaB_low : itoaB (-9223372036854775808) = ⟨#[45, 57, 50, 50, 51, 51, 55, 50, 48, 51, 54, 56, 53, 52, 55, 55, 53, 56, 48, 56]⟩ := by
  apply ba_ext
  rw [itoaB_list, show (-9223372036854775808 : Int) = -((9223372036854775808 : Nat) : Int) by rfl, Lib.itoa_neg _ (by omega)]
  simp [Lib.decDigits]
/-- What the reference's loop keeps: m is to come, s stands. -/
def DecInv (n m : Nat) (s : ByteArray) : Prop := decB m ++ s = decB n
theorem DecInv.start (n : Nat) : DecInv n n ⟨#[]⟩ := by apply ba_ext; rw [ba_append]; simp
theorem DecInv.step {n m : Nat} {s : ByteArray} (h : DecInv n m s) (hm : 9 < m) : DecInv n (m / 10) (strOfNums [(48 + m % 10 : Int)] ++ s) := by
  unfold DecInv at *
  rw [← h, decB_step hm, ByteArray.append_assoc]
theorem DecInv.last {n m : Nat} {s : ByteArray} (h : DecInv n m s) (hm : ¬ 9 < m) : strOfNums [(48 + m : Int)] ++ s = decB n := by
  rw [← decB_last hm]; exact h
theorem DecInv.size {n m : Nat} {s : ByteArray} (h : DecInv n m s) (hn : n ≤ 9223372036854775808) : s.size ≤ 20 := by
  have := decB_size n hn
  rw [← h, ByteArray.size_append] at this
  omega
end Go.Proofs.YthbnbofoefdneaaDoor
