/- Plain facts for the laws on locks' texts. No program in sight. -/
import Derived.Test.YtbnfhnfnbhigoaaDoorFmtLockP
namespace Go.Proofs.YtbnfhnfnbhigoaaDoor
theorem toL_append (a b : ByteArray) : (a ++ b).data.toList = a.data.toList ++ b.data.toList := by simp [ByteArray.data_append]
theorem dig_list (t : Int) : ∃ c : UInt8, (dig t).data.toList = [c] ∧ 48 ≤ c.toNat ∧ c.toNat ≤ 53 := by
  unfold dig; repeat' split
  all_goals exact ⟨_, rfl, by decide, by decide⟩
def cnt (l : List UInt8) : Nat := (l.filter fun c => c == 32).length
theorem cnt_append (a b : List UInt8) : cnt (a ++ b) = cnt a + cnt b := by simp [cnt]
theorem cnt_le (l : List UInt8) : cnt l ≤ l.length := List.length_filter_le _ _
theorem cnt_dig (t : Int) : cnt (dig t).data.toList = 0 := by
  obtain ⟨c, h, h1, h2⟩ := dig_list t
  rw [h]
  have : (c == 32) = false := beq_eq_false_iff_ne.2 fun e => by rw [e] at h1; revert h1; decide
  simp [cnt, this]
theorem foldl_cnt {α : Type} (f : ByteArray → α → ByteArray) (c : Nat) (hf : ∀ s x, cnt (f s x).data.toList = cnt s.data.toList + c) : ∀ (xs : List α) (s : ByteArray), cnt (xs.foldl f s).data.toList = cnt s.data.toList + c * xs.length
  | [], s => by simp
  | x :: xs, s => by rw [List.foldl_cons, foldl_cnt f c hf xs, hf, List.length_cons, Nat.mul_add]; omega
theorem cnt_rStep (s : ByteArray) (r : Int) : cnt (rStep s r).data.toList = cnt s.data.toList + 0 := by
  unfold rStep; rw [toL_append, toL_append, cnt_append, cnt_append, cnt_dig]; rfl
theorem cnt_qStep (s : ByteArray) (x : Int × Bool) : cnt (qStep s x).data.toList = cnt s.data.toList + 1 := by
  unfold qStep; rw [toL_append, toL_append, cnt_append, cnt_append, cnt_dig]; unfold signOf; cases x.2 <;> rfl
theorem cnt_head (l : LockD) : cnt (headText l).data.toList = 0 := by
  unfold headText
  split
  · split
    · decide
    · rw [rText, foldl_cnt _ 0 cnt_rStep]; simp [cnt]
  · rw [toL_append, cnt_append, cnt_dig]; rfl
/-- The first byte. -/
theorem foldl_hd {α : Type} (f : ByteArray → α → ByteArray) (hf : ∀ s x, ∃ z, (f s x).data.toList = s.data.toList ++ z) : ∀ (xs : List α) (s : ByteArray), ∃ z, (xs.foldl f s).data.toList = s.data.toList ++ z
  | [], s => ⟨[], by simp⟩
  | x :: xs, s => by
    obtain ⟨z, h⟩ := foldl_hd f hf xs (f s x)
    obtain ⟨y, h2⟩ := hf s x
    exact ⟨y ++ z, by rw [List.foldl_cons, h, h2, List.append_assoc]⟩
theorem rStep_app (s : ByteArray) (r : Int) : ∃ z, (rStep s r).data.toList = s.data.toList ++ z := ⟨_, by unfold rStep; rw [toL_append, toL_append, List.append_assoc]⟩
theorem qStep_app (s : ByteArray) (x : Int × Bool) : ∃ z, (qStep s x).data.toList = s.data.toList ++ z := ⟨_, by unfold qStep; rw [toL_append, toL_append, List.append_assoc]⟩
theorem head_first (l : LockD) : ∃ c r, (headText l).data.toList = c :: r ∧ (c = 119 ↔ l.writer ≠ -1) ∧ (l.writer = -1 → 0 < l.readers.length → c = 114) := by
  unfold headText
  split
  · rename_i hw
    split
    · rename_i hr; exact ⟨102, _, rfl, by simp [hw], fun _ h => by omega⟩
    · rename_i hr
      cases hl : l.readers with
      | nil => rw [hl] at hr; exact absurd rfl hr
      | cons r rs =>
        obtain ⟨z, hz⟩ := foldl_hd rStep rStep_app rs (rStep ⟨#[]⟩ r)
        refine ⟨114, (dig r).data.toList ++ z, ?_, by simp [hw], fun _ _ => rfl⟩
        rw [rText, List.foldl_cons, hz]
        unfold rStep
        rw [toL_append, toL_append]; rfl
  · rename_i hw
    exact ⟨119, _, by rw [toL_append]; rfl, by simp [hw], fun h => absurd h hw⟩
theorem fmt_text {l : LockD} (h : lockB l = true) : ∃ z, (fmtL l).data.toList = (headText l).data.toList ++ z ∧ cnt (fmtL l).data.toList = l.q.length ∧ (fmtL l).size = (headText l).size + 3 * l.q.length ∧ (fmtL l).size ≤ 40 := by
  have hk := lockB_true.1 h
  have := headText_size hk
  have := hk.small
  unfold fmtL
  rw [h]
  simp only [if_true]
  obtain ⟨z, hz⟩ := foldl_hd qStep qStep_app l.q (headText l)
  refine ⟨z, hz, ?_, qText_size _ _, by rw [qText_size]; omega⟩
  rw [qText, foldl_cnt _ 1 cnt_qStep, cnt_head]; omega
theorem fmt_bad {l : LockD} (h : lockB l = false) : fmtL l = ⟨#[]⟩ := by unfold fmtL; rw [h]; rfl
theorem fmt_good {l : LockD} (h : lockB l = true) : ∃ c r, (fmtL l).data.toList = c :: r ∧ (c = 119 ↔ l.writer ≠ -1) := by
  obtain ⟨z, hz, _⟩ := fmt_text h
  obtain ⟨c, r, hc, h1, _⟩ := head_first l
  exact ⟨c, r ++ z, by rw [hz, hc]; rfl, h1⟩
/-- 'free' is the new lock's text, and no other's. -/
theorem fmt_free {l : LockD} (h : lockB l = true) : fmtL l = ⟨#[102, 114, 101, 101]⟩ ↔ l = ⟨[], -1, []⟩ := by
  constructor
  · intro e
    obtain ⟨z, hz, hc, hs, _⟩ := fmt_text h
    have h4 : (fmtL l).size = 4 := by rw [e]; rfl
    obtain ⟨c, r, hh, h1, h2⟩ := head_first l
    have hcc : c = 102 := by
      have := hz
      rw [e, hh] at this
      have := congrArg List.head? this
      simpa using this.symm
    have hw : l.writer = -1 := by
      rcases Decidable.em (l.writer = -1) with h | h
      · exact h
      · have := h1.2 h; rw [hcc] at this; exact absurd this (by decide)
    have hr : l.readers = [] := by
      rcases Nat.eq_zero_or_pos l.readers.length with h | h
      · exact List.length_eq_zero_iff.1 h
      · have := h2 hw h; rw [hcc] at this; exact absurd this (by decide)
    have hq : l.q = [] := by
      have : (headText l).size = 4 := by unfold headText; rw [if_pos hw, if_pos (by rw [hr]; rfl)]; rfl
      exact List.length_eq_zero_iff.1 (by omega)
    obtain ⟨a, b, c⟩ := l
    simp only at hw hr hq
    subst hw hr hq; rfl
  · rintro rfl; decide +kernel
theorem new_lock : lockB ⟨[], -1, []⟩ = true := by decide +kernel
theorem take_cnt {s : ByteArray} {k : Nat} (h : k < s.size) : cnt (s.data.toList.take (k + 1)) = cnt (s.data.toList.take k) + if s[k].toNat = 32 then 1 else 0 := by
  rw [List.take_succ_eq_append_getElem (by simpa using h), cnt_append]
  have e : s.data.toList[k]'(by simpa using h) = s[k] := rfl
  rw [e]
  by_cases hx : s[k] = 32
  · simp [cnt, hx]
  · have : ¬ s[k].toNat = 32 := fun e => hx (UInt8.toNat_inj.1 e)
    simp [cnt, hx, this]
theorem get_first {s : ByteArray} {c : UInt8} {r : List UInt8} (h : 0 < s.size) (e : s.data.toList = c :: r) : s[0] = c := by
  have h1 : s.data.toList[0]? = some c := by rw [e]; rfl
  have k : s.data.toList[0]? = some s[0] := List.getElem?_eq_getElem (by simpa using h)
  rw [k] at h1; exact Option.some.inj h1
end Go.Proofs.YtbnfhnfnbhigoaaDoor
