/- A text cut at every byte c, in plain terms: what the reference's loop keeps. No program in sight. -/
import Derived.Test.YthbnbofoefdneaaDoorTextP
namespace Go.Proofs.YthbnbofoefdneaaDoor
open Go.RowKit
set_option linter.unusedSimpArgs false
set_option linter.unusedVariables false
/-- The pieces of s from `from` on, of which n bytes are still to be looked at. -/
def cutFrom (s : ByteArray) (c : Int) : Nat → Nat → List ByteArray
  | f, 0 => [s.extract f s.size]
  | f, n + 1 => if ((s.data.toList[s.size - (n + 1)]?).map fun x => (x.toNat : Int)) = some c then s.extract f (s.size - (n + 1)) :: cutFrom s c (s.size - n) n else cutFrom s c f n
def cutB (s : ByteArray) (c : Int) : List ByteArray := cutFrom s c 0 s.size
theorem byte_at {s : ByteArray} {k : Nat} (h : k < s.size) : s.data.toList[k]? = some s[k] := List.getElem?_eq_getElem (by simpa using h)
theorem cutFrom_hit {s : ByteArray} {c : Int} {f k : Nat} (h : k < s.size) (hc : (s[k].toNat : Int) = c) : cutFrom s c f (s.size - k) = s.extract f k :: cutFrom s c (k + 1) (s.size - (k + 1)) := by
  obtain ⟨n, hn⟩ : ∃ n, s.size - k = n + 1 := ⟨s.size - k - 1, by omega⟩
  rw [hn, cutFrom, show s.size - (n + 1) = k by omega, byte_at h, if_pos (by simp [hc]), show s.size - n = k + 1 by omega, show n = s.size - (k + 1) by omega]
theorem cutFrom_miss {s : ByteArray} {c : Int} {f k : Nat} (h : k < s.size) (hc : ¬ (s[k].toNat : Int) = c) : cutFrom s c f (s.size - k) = cutFrom s c f (s.size - (k + 1)) := by
  obtain ⟨n, hn⟩ : ∃ n, s.size - k = n + 1 := ⟨s.size - k - 1, by omega⟩
  rw [hn, cutFrom, show s.size - (n + 1) = k by omega, byte_at h, if_neg (by simp [hc]), show n = s.size - (k + 1) by omega]
theorem cutFrom_len (s : ByteArray) (c : Int) : ∀ (n f : Nat), 1 ≤ (cutFrom s c f n).length ∧ (cutFrom s c f n).length ≤ n + 1
  | 0, f => by simp [cutFrom]
  | n + 1, f => by
    unfold cutFrom
    split
    · have := cutFrom_len s c n (s.size - n)
      simp only [List.length_cons]; omega
    · have := cutFrom_len s c n f
      omega
theorem extract_size_le (s : ByteArray) (a b : Nat) : (s.extract a b).size ≤ s.size := by rw [ByteArray.size_extract]; omega
theorem cutFrom_sizes (s : ByteArray) (c : Int) : ∀ (n f : Nat), ∀ x ∈ cutFrom s c f n, x.size ≤ s.size
  | 0, f => by
    intro x hx
    simp only [cutFrom, List.mem_cons, List.not_mem_nil, or_false] at hx
    subst hx; exact extract_size_le _ _ _
  | n + 1, f => by
    intro x hx
    unfold cutFrom at hx
    split at hx
    · rcases List.mem_cons.1 hx with rfl | hx
      · exact extract_size_le _ _ _
      · exact cutFrom_sizes s c n _ x hx
    · exact cutFrom_sizes s c n f x hx
theorem cutB_len (s : ByteArray) (c : Int) : 1 ≤ (cutB s c).length ∧ (cutB s c).length ≤ s.size + 1 := cutFrom_len s c _ _
theorem cutB_sizes (s : ByteArray) (c : Int) : ∀ x ∈ cutB s c, x.size ≤ s.size := cutFrom_sizes s c _ _
/-- What the loop keeps at k: out stands, the piece that is open begins at f. -/
def CutInv (s : ByteArray) (c : Int) (k f : Nat) (out : List ByteArray) : Prop := out.length ≤ k ∧ ((k ≤ s.size ∧ f ≤ k ∧ out ++ cutFrom s c f (s.size - k) = cutB s c) ∨ (k = s.size + 1 ∧ out = cutB s c))
theorem CutInv.start (s : ByteArray) (c : Int) : CutInv s c 0 0 [] := ⟨Nat.le_refl _, .inl ⟨Nat.zero_le _, Nat.le_refl _, rfl⟩⟩
theorem CutInv.hit {s : ByteArray} {c : Int} {k f : Nat} {out : List ByteArray} (h : CutInv s c k f out) (hk : k < s.size) (hc : (s[k].toNat : Int) = c) : CutInv s c (k + 1) (k + 1) (out ++ [s.extract f k]) := by
  obtain ⟨h1, h2 | ⟨h2, _⟩⟩ := h
  · obtain ⟨_, h3, h4⟩ := h2
    rw [cutFrom_hit hk hc] at h4
    exact ⟨by simp; omega, .inl ⟨by omega, Nat.le_refl _, by rw [List.append_assoc]; exact h4⟩⟩
  · omega
theorem CutInv.miss {s : ByteArray} {c : Int} {k f : Nat} {out : List ByteArray} (h : CutInv s c k f out) (hk : k < s.size) (hc : ¬ (s[k].toNat : Int) = c) : CutInv s c (k + 1) f out := by
  obtain ⟨h1, h2 | ⟨h2, _⟩⟩ := h
  · obtain ⟨_, h3, h4⟩ := h2
    rw [cutFrom_miss hk hc] at h4
    exact ⟨by omega, .inl ⟨by omega, by omega, h4⟩⟩
  · omega
theorem CutInv.last {s : ByteArray} {c : Int} {f : Nat} {out : List ByteArray} (h : CutInv s c s.size f out) : CutInv s c (s.size + 1) (s.size + 1) (out ++ [s.extract f s.size]) := by
  obtain ⟨h1, h2 | ⟨h2, _⟩⟩ := h
  · obtain ⟨_, h3, h4⟩ := h2
    rw [Nat.sub_self] at h4
    exact ⟨by simp; omega, .inr ⟨rfl, h4⟩⟩
  · omega
theorem CutInv.done {s : ByteArray} {c : Int} {k f : Nat} {out : List ByteArray} (h : CutInv s c k f out) (hk : s.size < k) : out = cutB s c := by
  obtain ⟨h1, h2 | ⟨h2, h3⟩⟩ := h
  · omega
  · exact h3
theorem CutInv.le {s : ByteArray} {c : Int} {k f : Nat} {out : List ByteArray} (h : CutInv s c k f out) : k ≤ s.size + 1 ∧ out.length ≤ k ∧ (k ≤ s.size → f ≤ k) := by
  obtain ⟨h1, h2 | ⟨h2, h3⟩⟩ := h <;> refine ⟨by omega, h1, fun _ => by omega⟩
end Go.Proofs.YthbnbofoefdneaaDoor
