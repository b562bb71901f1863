/- Operations of different kinds have different texts. No program in sight. -/
import Derived.Test.YthbnbofoefdneaaDoorOpText
namespace Go.Proofs.YthbnbofoefdneaaDoor
theorem wordB_two {k : Int} (h : Kd k) : 2 ≤ (wordB k).data.toList.length := by
  rcases kd_ten h with rfl | rfl | rfl | rfl | rfl | rfl | rfl | rfl | rfl | rfl <;> decide
theorem wordB_inj {j k : Int} (hj : Kd j) (hk : Kd k) (h : (wordB j).data.toList.take 2 = (wordB k).data.toList.take 2) : j = k := by
  rcases kd_ten hj with rfl | rfl | rfl | rfl | rfl | rfl | rfl | rfl | rfl | rfl <;> rcases kd_ten hk with rfl | rfl | rfl | rfl | rfl | rfl | rfl | rfl | rfl | rfl <;> first | rfl | (exact absurd h (by decide))
theorem opText_head {x : OpT} (h : Kd x.1) : (opText x).data.toList.take 2 = (wordB x.1).data.toList.take 2 := by
  have h2 := wordB_two h
  unfold opText
  rw [if_pos h]
  split
  · rw [ba_append, ba_append, List.append_assoc, List.take_append_of_le_length h2]
  · split
    · rw [ba_append, ba_append, List.append_assoc, List.take_append_of_le_length h2]
    · rw [ba_append, ba_append, ba_append, ba_append, List.append_assoc, List.append_assoc, List.append_assoc, List.take_append_of_le_length h2]
theorem opText_kinds {j k a b : Int} (hj : Kd j) (hk : Kd k) (hne : ¬ j = k) : ¬ opText (j, a, b) = opText (k, a, b) := fun e => hne (wordB_inj hj hk (by
  have h1 := opText_head (x := (j, a, b)) hj
  have h2 := opText_head (x := (k, a, b)) hk
  rw [e] at h1
  exact h1.symm.trans h2))
theorem opText_some {x : OpT} (h : Kd x.1) : 0 < (opText x).size := by
  have h1 := opText_head h
  have h2 := wordB_two h
  rcases Nat.eq_zero_or_pos (opText x).size with e | e
  · have e2 : (opText x).data.toList = [] := List.length_eq_zero_iff.1 (by rw [Array.length_toList]; exact e)
    rw [e2] at h1
    have := congrArg List.length h1
    simp only [List.length_take, List.length_nil] at this
    omega
  · exact e
end Go.Proofs.YthbnbofoefdneaaDoor
