/- What SendChan, GetChan, CloseChan leave is short. No program in sight. -/
import Derived.Test.YtpgiinklbnlloaaChanGetS
import Derived.Test.YtpgiinklbnlloaaChanClose
namespace Go.Proofs.Ytpgiinklbnlloaa
open Go.RowKit
set_option linter.unusedSimpArgs false
set_option linter.unusedVariables false
theorem few_zero : ChanFew 7 ChanD.zero := by simp [ChanFew, ChanD.zero]
theorem send_few {c r : ChanD} {t x : Int} {y : List Int} {s b : Bool} (h : send c t x = (r, y, s, b)) : ChanFew 7 r := by
  cases hn : sendOk c t x
  · obtain ⟨rfl, _⟩ := send_no h hn; exact few_zero
  · obtain ⟨m1, m2⟩ := (chanB_true.1 (sendOk_valid hn)).small
    by_cases hg : 0 < c.getters.length
    · obtain ⟨rfl, _⟩ := send_get h hn hg; simp only [ChanFew, List.length_drop]; omega
    · by_cases hr : (c.items.length : Int) < c.room
      · obtain ⟨rfl, _⟩ := send_room h hn hg hr; simp only [ChanFew, List.length_append, List.length_singleton]; omega
      · obtain ⟨rfl, _⟩ := send_wait h hn hg hr; simp only [ChanFew, List.length_append, List.length_singleton]; omega
theorem get_few {c r : ChanD} {t v s : Int} {y : List Int} {b : Bool} (h : getC c t = (r, v, s, y, b)) : ChanFew 7 r := by
  cases hn : getOk c t
  · obtain ⟨rfl, _⟩ := get_no h hn; exact few_zero
  · have hv : chanB c = true := by simp only [getOk, Bool.and_eq_true] at hn; exact hn.1.1
    obtain ⟨m1, m2⟩ := (chanB_true.1 hv).small
    by_cases hs : 0 < c.senders.length
    · obtain ⟨z, hz⟩ := get_ex hs
      obtain ⟨zs, hzs⟩ : ∃ zs, c.items ++ [z.2] = zs := ⟨_, rfl⟩
      have hl : zs.length = c.items.length + 1 := by rw [← hzs]; simp
      obtain ⟨x, hx⟩ := get_ex (show 0 < zs.length by omega)
      obtain ⟨rfl, _⟩ := get_send h hn hz hzs hx
      simp only [ChanFew, List.length_drop]; omega
    · by_cases hi : 0 < c.items.length
      · obtain ⟨x, hx⟩ := get_ex hi
        obtain ⟨rfl, _⟩ := get_item h hn hs hx
        simp only [ChanFew, List.length_drop]; omega
      · obtain ⟨h1, h2⟩ := get_none h hn hs hi
        cases hc : c.closed
        · obtain ⟨rfl, _⟩ := h2 hc; simp only [ChanFew, List.length_append, List.length_singleton]; omega
        · obtain ⟨e, _⟩ := h1 hc; rw [← e]; simp only [ChanFew]; omega
theorem close_few {c r : ChanD} {y : List Int} {b : Bool} (h : closeC c = (r, y, b)) : ChanFew 10 r := by
  have := (close_small h).1
  simp only [ChanFew]; omega
end Go.Proofs.Ytpgiinklbnlloaa
