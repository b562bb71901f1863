/- Plain facts for the laws on channels. No program in sight. -/
import Derived.Test.YtpgiinklbnlloaaChanFew
import Derived.Test.YtpgiinklbnlloaaChanPend
import Derived.Test.YtpgiinklbnlloaaChanSame
namespace Go.Proofs.Ytpgiinklbnlloaa
theorem pend_yes {c : ChanD} (h : chanB c = true) : pend c = (c.items ++ c.senders.map (·.2), true) := by unfold pend; rw [if_pos h]
theorem sides {c : ChanD} (h : chanB c = true) : (0 < c.senders.length → (c.items.length : Int) = c.room ∧ c.getters.length = 0 ∧ c.closed = false) ∧ (c.getters.length = 0 ∨ c.items.length = 0 ∧ c.closed = false) := (chanB_true.1 h).2.2.2.2
theorem Distinct.of_perm {a b : List Int} (h : Distinct a) (hp : b.Perm a) : Distinct b := ⟨fun x hx => h.1 x (hp.subset hx), hp.symm.nodup h.2⟩
theorem Distinct.sub {a b : List Int} (h : Distinct a) (hp : b.Sublist a) : Distinct b := ⟨fun x hx => h.1 x (hp.subset hx), hp.nodup h.2⟩
/-- What is sent. -/
theorem send_ok {c r : ChanD} {t x : Int} {y : List Int} {s : Bool} (h : send c t x = (r, y, s, true)) :
    chanB r = true ∧ chanB c = true ∧ ((0 < c.getters.length ∧ y = c.getters.take 1 ∧ y.length = 1 ∧ s = true ∧ (pend r).1 = (pend c).1) ∨
      (c.getters.length = 0 ∧ y = [] ∧ s = decide ((c.items.length : Int) < c.room) ∧ (pend r).1 = (pend c).1 ++ [x])) := by
  cases hn : sendOk c t x
  · obtain ⟨_, _, _, e⟩ := send_no h hn; cases e
  · have hv := sendOk_valid hn
    have hk := chanB_true.1 hv
    obtain ⟨h1, h2, h3, h4, h5⟩ := hk
    obtain ⟨t1, t2⟩ := h5
    simp only [sendOk, Bool.and_eq_true, Bool.not_eq_true', decide_eq_false_iff_not] at hn
    obtain ⟨⟨⟨⟨_, n2⟩, n3⟩, n4⟩, n5⟩ := hn
    have n2 := thrB_true.1 n2
    have n5 := valB_true.1 n5
    by_cases hg : 0 < c.getters.length
    · have hn' : sendOk c t x = true := by simp [sendOk, hv, thrB_true.2 n2, n3, n4, valB_true.2 n5]
      obtain ⟨rfl, rfl, rfl, _⟩ := send_get h hn' hg
      have hs : c.senders = [] := by
        cases hq : c.senders with
        | nil => rfl
        | cons z q => have := (t1 (by rw [hq]; simp)).2.1; omega
      have hi : c.items = [] := List.length_eq_zero_iff.1 (by omega)
      have hr : chanB ⟨c.room, c.items, c.senders, c.getters.drop 1, c.closed⟩ = true := by
        refine chanB_true.2 ⟨h1, h2, h3, ?_, ?_⟩
        · exact h4.sub (by simp only [chanThr]; exact (List.Sublist.refl _).append (List.drop_sublist _ _))
        · exact ⟨fun hq => by rw [hs] at hq; simp at hq, .inr ⟨by rw [hi]; rfl, by simpa using n4⟩⟩
      refine ⟨hr, hv, .inl ⟨hg, rfl, by rw [List.length_take]; omega, rfl, ?_⟩⟩
      rw [pend_yes hr, pend_yes hv]
    · have hn' : sendOk c t x = true := by simp [sendOk, hv, thrB_true.2 n2, n3, n4, valB_true.2 n5]
      have hgl : c.getters = [] := List.length_eq_zero_iff.1 (by omega)
      by_cases hr0 : (c.items.length : Int) < c.room
      · obtain ⟨rfl, rfl, rfl, _⟩ := send_room h hn' hg hr0
        have hs : c.senders = [] := by
          cases hq : c.senders with
          | nil => rfl
          | cons z q => have := (t1 (by rw [hq]; simp)).1; omega
        have hr : chanB ⟨c.room, c.items ++ [x], c.senders, c.getters, c.closed⟩ = true := by
          refine chanB_true.2 ⟨?_, ?_, h3, h4, ?_⟩
          · unfold ChanHead at h1 ⊢; simp only [List.length_append, List.length_singleton]; omega
          · intro z hz; rcases List.mem_append.1 hz with hz | hz
            · exact h2 z hz
            · rw [List.mem_singleton.1 hz]; exact n5
          · exact ⟨fun hq => by rw [hs] at hq; simp at hq, .inl (by rw [hgl]; rfl)⟩
        refine ⟨hr, hv, .inr ⟨by omega, rfl, (decide_eq_true hr0).symm, ?_⟩⟩
        rw [pend_yes hr, pend_yes hv]; simp [hs]
      · obtain ⟨rfl, rfl, rfl, _⟩ := send_wait h hn' hg hr0
        have hr : chanB ⟨c.room, c.items, c.senders ++ [(t, x)], c.getters, c.closed⟩ = true := by
          refine chanB_true.2 ⟨h1, h2, ?_, ?_, ?_⟩
          · intro z hz; rcases List.mem_append.1 hz with hz | hz
            · exact h3 z hz
            · rw [List.mem_singleton.1 hz]; exact n5
          · have hd : Distinct (chanThr c ++ [t]) := h4.snoc (thrB_true.2 n2) n3
            refine hd.of_perm ?_
            simp only [chanThr, hgl, List.map_append, List.map_cons, List.map_nil, List.append_nil]
            exact List.Perm.refl _
          · unfold ChanHead at h1
            exact ⟨fun _ => ⟨by show (c.items.length : Int) = c.room; omega, by rw [hgl]; rfl, by simpa using n4⟩, .inl (by rw [hgl]; rfl)⟩
        refine ⟨hr, hv, .inr ⟨by omega, rfl, (decide_eq_false hr0).symm, ?_⟩⟩
        rw [pend_yes hr, pend_yes hv]; simp
theorem ChanRow.parts {w : World} {x0 v1 v2 v3 x4 : Value} {c : ChanD} (h : ChanRow w (.agg #[x0, v1, v2, v3, x4]) c) : Row 1 encI w v1 c.items ∧ Row 2 encP w v2 c.senders ∧ Row 1 encI w v3 c.getters := by
  obtain ⟨a1, p1, a2, p2, a3, p3, e, r1, r2, r3⟩ := h
  simp only [Value.agg.injEq] at e
  simp at e
  obtain ⟨rfl, rfl, rfl, rfl, rfl⟩ := e
  exact ⟨r1, r2, r3⟩
theorem take_one {α : Type} {xs : List α} {z : α} (h : xs[0]? = some z) : xs.take 1 = [z] := by
  cases xs with
  | nil => cases h
  | cons a r => simp at h; simp [h]
end Go.Proofs.Ytpgiinklbnlloaa
