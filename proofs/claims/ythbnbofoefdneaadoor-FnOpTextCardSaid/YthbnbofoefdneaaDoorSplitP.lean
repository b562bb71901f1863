/- What strings.Split returns at a space is the reference's cut; the pieces put together again are the text. No program in sight. -/
import Derived.Test.YthbnbofoefdneaaDoorCutP
import Derived.Test.YthbnbofoefdneaaDoorNumL
import Derived.Lib.SplitLaws
namespace Go.Proofs.YthbnbofoefdneaaDoor
open Go.RowKit
set_option linter.unusedSimpArgs false
set_option linter.unusedVariables false
def headApp (p : List UInt8) : List (List UInt8) → List (List UInt8)
  | [] => [p]
  | x :: r => (p ++ x) :: r
def cutL (c : UInt8) : List UInt8 → List (List UInt8)
  | [] => [[]]
  | b :: l => if b = c then [] :: cutL c l else headApp [b] (cutL c l)
theorem cutL_ne (c : UInt8) : ∀ l, ∃ x r, cutL c l = x :: r
  | [] => ⟨_, _, rfl⟩
  | b :: l => by
    obtain ⟨x, r, h⟩ := cutL_ne c l
    unfold cutL
    split
    · exact ⟨_, _, rfl⟩
    · rw [h]; exact ⟨_, _, rfl⟩
theorem headApp_nil (c : UInt8) (l : List UInt8) : headApp [] (cutL c l) = cutL c l := by
  obtain ⟨x, r, h⟩ := cutL_ne c l
  rw [h]; rfl
theorem headApp_two (p q : List UInt8) (c : UInt8) (l : List UInt8) : headApp p (headApp q (cutL c l)) = headApp (p ++ q) (cutL c l) := by
  obtain ⟨x, r, h⟩ := cutL_ne c l
  rw [h]; simp [headApp]
/-- The pieces joined. -/
theorem cutL_join (c : UInt8) : ∀ (l : List UInt8) (x : List UInt8) (r : List (List UInt8)), cutL c l = x :: r → l = x ++ r.flatMap (fun y => c :: y)
  | [], x, r, h => by
    simp only [cutL, List.cons.injEq] at h
    obtain ⟨rfl, rfl⟩ := h; rfl
  | b :: l, x, r, h => by
    obtain ⟨y, s, hy⟩ := cutL_ne c l
    have ih := cutL_join c l y s hy
    unfold cutL at h
    split at h
    · rename_i hb
      simp only [List.cons.injEq] at h
      obtain ⟨rfl, rfl⟩ := h
      rw [hy, List.flatMap_cons, hb]
      simp only [List.nil_append, List.cons_append]
      rw [← ih]
    · rw [hy] at h
      simp only [headApp, List.cons.injEq] at h
      obtain ⟨rfl, rfl⟩ := h
      rw [ih]; simp
theorem splitK_cut (c : UInt8) : ∀ l : List UInt8, Lib.splitK [c] 0 (Lib.count l [c]) l = cutL c l
  | [] => by
    rw [Lib.count_one]; rfl
  | b :: l => by
    have ih := splitK_cut c l
    by_cases hb : b = c
    · subst hb
      rw [Lib.count_cons_eq, Nat.add_comm, Lib.splitK]
      have hix : Lib.index (b :: l) [b] = 0 := by rw [Lib.index]; simp [List.isPrefixOf]
      rw [hix]
      simp only [cutL, if_true]
      rw [← ih]; simp
    · rw [Lib.count_cons_ne b c l hb]
      have hp : ([c] : List UInt8).isPrefixOf (b :: l) = false := by simp [List.isPrefixOf, Ne.symm hb]
      have hix : Lib.index (b :: l) [c] = if Lib.index l [c] == -1 then -1 else Lib.index l [c] + 1 := by rw [Lib.index, hp]; simp
      simp only [cutL, if_neg hb]
      cases hk : Lib.count l [c] with
      | zero =>
        rw [hk] at ih
        rw [← ih]; rfl
      | succ k =>
        rw [hk, Lib.splitK] at ih
        rw [Lib.splitK, hix]
        by_cases hm : Lib.index l [c] = -1
        · rw [Lib.count_miss hm] at hk; cases hk
        · have hge := Lib.index_ge l [c]
          obtain ⟨j, hj⟩ : ∃ j : Nat, Lib.index l [c] = j := ⟨(Lib.index l [c]).toNat, by omega⟩
          rw [hj] at ih ⊢
          have e1 : ((j : Int) == -1) = false := beq_eq_false_iff_ne.2 (by omega)
          have e2 : ((j : Int) + 1 == -1) = false := beq_eq_false_iff_ne.2 (by omega)
          rw [e1] at ih ⊢
          simp only [Bool.false_eq_true, if_false] at ih ⊢
          rw [e2]
          simp only [Bool.false_eq_true, if_false]
          rw [← ih]
          have e3 : ((j : Int) + 1).toNat = j + 1 := by omega
          rw [e3]
          simp [headApp]
theorem ba_extract (s : ByteArray) (a b : Nat) : (s.extract a b).data.toList = (s.data.toList.drop a).take (b - a) := by
  rw [← ByteArray.toList_eq]; exact Lib.extract_toList s a b
theorem cutFrom_data (s : ByteArray) (c : UInt8) : ∀ (n f : Nat), n ≤ s.size → f ≤ s.size - n →
    (cutFrom s (c.toNat : Int) f n).map (·.data.toList) = headApp ((s.data.toList.drop f).take (s.size - n - f)) (cutL c (s.data.toList.drop (s.size - n)))
  | 0, f, hn, hf => by
    have hz : s.data.toList.drop (s.size - 0) = [] := by rw [List.drop_eq_nil_iff, ba_len]; omega
    rw [hz]
    simp only [cutFrom, List.map_cons, List.map_nil, cutL, headApp, List.append_nil]
    rw [ba_extract]
    rfl
  | n + 1, f, hn, hf => by
    have hk : s.size - (n + 1) < s.size := by omega
    have hd : s.data.toList.drop (s.size - (n + 1)) = s[s.size - (n + 1)] :: s.data.toList.drop (s.size - n) := by
      have := List.drop_eq_getElem_cons (l := s.data.toList) (i := s.size - (n + 1)) (by rw [ba_len]; exact hk)
      rw [show s.size - (n + 1) + 1 = s.size - n by omega] at this
      exact this
    rw [hd]
    unfold cutFrom
    rw [byte_at hk]
    by_cases hb : s[s.size - (n + 1)] = c
    · rw [if_pos (by rw [hb]; rfl)]
      simp only [cutL, if_pos hb, List.map_cons, headApp, List.append_nil]
      rw [cutFrom_data s c n (s.size - n) (by omega) (by omega)]
      rw [Nat.sub_self, List.take_zero, headApp_nil, ba_extract]
    · rw [if_neg (by simp only [Option.map_some, Option.some.injEq]; intro e; exact hb (UInt8.toNat_inj.1 (by omega)))]
      rw [cutFrom_data s c n f (by omega) (by omega)]
      simp only [cutL, if_neg hb]
      rw [headApp_two]
      congr 1
      rw [show s.size - n - f = (s.size - (n + 1) - f) + 1 by omega]
      exact take_snoc (by rw [List.getElem?_drop, show f + (s.size - (n + 1) - f) = s.size - (n + 1) by omega]; exact byte_at hk)
theorem cutB_data (s : ByteArray) (c : UInt8) : (cutB s (c.toNat : Int)).map (·.data.toList) = cutL c s.data.toList := by
  have h := cutFrom_data s c s.size 0 (Nat.le_refl _) (Nat.zero_le _)
  rw [Nat.sub_self, List.drop_zero, Nat.sub_zero, List.take_zero, headApp_nil] at h
  exact h
theorem map_data_inj : ∀ {a b : List ByteArray}, a.map (·.data.toList) = b.map (·.data.toList) → a = b
  | [], [], _ => rfl
  | [], _ :: _, h => by cases h
  | _ :: _, [], h => by cases h
  | x :: r, y :: t, h => by
    simp only [List.map_cons, List.cons.injEq] at h
    rw [ba_ext h.1, map_data_inj h.2]
theorem split_cut (s : ByteArray) : Lib.splitB ⟨#[32]⟩ 0 (Lib.countB s ⟨#[32]⟩) s = cutB s 32 :=
  map_data_inj (by rw [Lib.splitB_data]; exact (splitK_cut 32 s.data.toList).trans (cutB_data s 32).symm)
/-- A text is its pieces, with spaces between them. -/
theorem cut_join {s x : ByteArray} {r : List ByteArray} (h : cutB s 32 = x :: r) : s.data.toList = x.data.toList ++ r.flatMap (fun y => 32 :: y.data.toList) := by
  have h1 := cutB_data s 32
  rw [show ((32 : UInt8).toNat : Int) = 32 from rfl, h] at h1
  have h2 := cutL_join 32 _ _ _ h1.symm
  rw [h2]
  congr 1
  simp [List.flatMap_map]
end Go.Proofs.YthbnbofoefdneaaDoor
