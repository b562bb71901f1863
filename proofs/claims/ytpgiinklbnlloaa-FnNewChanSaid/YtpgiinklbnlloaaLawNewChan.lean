/- Plain facts for FnNewChan, what it draws. -/
import Derived.Test.YtpgiinklbnlloaaChanSend
import Derived.Test.YtpgiinklbnlloaaChanSame
import Derived.Test.YtpgiinklbnlloaaDrawNewSem
import Derived.Test.YtpgiinklbnlloaaBytes
namespace Go.Proofs.Ytpgiinklbnlloaa
open Go.RowKit
set_option linter.unusedSimpArgs false
set_option linter.unusedVariables false
/-- A new channel after k values have been sent. -/
def chanK (l k : Nat) : ChanD := if k ≤ l then ⟨l, (List.range k).map fun (j : Nat) => (j : Int), [], [], false⟩ else ⟨l, (List.range l).map fun (j : Nat) => (j : Int), [(0, l)], [], false⟩
theorem newK_all : (List.range 5).all (fun l => (List.range (l + 1)).all fun k => decide (send (chanK l k) 0 k = (chanK l (k + 1), [], decide (k < l), true))) = true := by decide +kernel
theorem newK_end : (List.range 5).all (fun l => chanB (chanK l (l + 1)) && decide ((chanK l (l + 1)).items.length = l) && decide ((chanK l (l + 1)).senders.length = 1)) = true := by decide +kernel
theorem newK_len : (List.range 5).all (fun l => (List.range (l + 2)).all fun k => decide ((chanK l k).items.length + (chanK l k).senders.length + (chanK l k).getters.length ≤ 10)) = true := by decide +kernel
theorem newK_step {l k : Nat} (hl : l ≤ 4) (hk : k ≤ l) : send (chanK l k) 0 k = (chanK l (k + 1), [], decide (k < l), true) :=
  of_decide_eq_true (List.all_eq_true.1 (List.all_eq_true.1 newK_all l (List.mem_range.2 (by omega))) k (List.mem_range.2 (by omega)))
theorem newK_small {l k : Nat} (hl : l ≤ 4) (hk : k ≤ l + 1) : (chanK l k).items.length + (chanK l k).senders.length + (chanK l k).getters.length ≤ 10 :=
  of_decide_eq_true (List.all_eq_true.1 (List.all_eq_true.1 newK_len l (List.mem_range.2 (by omega))) k (List.mem_range.2 (by omega)))
theorem newK_fin {l : Nat} (hl : l ≤ 4) : chanB (chanK l (l + 1)) = true ∧ (chanK l (l + 1)).items.length = l ∧ (chanK l (l + 1)).senders.length = 1 := by
  have h := List.all_eq_true.1 newK_end l (List.mem_range.2 (by omega))
  simp only [Bool.and_eq_true, decide_eq_true_eq] at h
  exact ⟨h.1.1, h.1.2, h.2⟩
theorem newChan_ok {l : Int} {r : ChanD} (h : newChan l = (r, true)) : ∃ n : Nat, l = n ∧ n ≤ 4 ∧ r = chanK n 0 := by
  unfold newChan at h
  split at h
  · rename_i hl
    injection h with h _
    obtain ⟨n, rfl⟩ := Int.eq_ofNat_of_zero_le hl.1
    exact ⟨n, rfl, by omega, by rw [← h]; simp [chanK]⟩
  · injection h with _ h; cases h
theorem DrawNewChan_calls (v : Value) (bs : List Int) (w : World) (h : Row 1 encB w v bs) (hbs : ∀ x ∈ bs, 0 ≤ x ∧ x ≤ 255) :
    Calls Try.prog 19 #[v] w fun e w' => ∃ x : Int, e = .returned (.int .i64 x) ∧ (-1 ≤ x ∧ x ≤ 5) ∧ Below w.heap.size w w' := by
  go_enter Try.func19, Try.ntmps19
  go_wp2_with (fail)
  refine (l13Open_calls v bs _ h hbs).mono ?_
  rintro e w1 ⟨rfl, hr, hb⟩
  have HR := Lib.hid hr
  have HB := Lib.hid hb
  have hz : w.heap.size < w1.heap.size := by obtain ⟨_, _, _, hx, _⟩ := hr; exact heap_lt hx
  clear hr hb
  go_wp2_with (fail)
  refine (num_calls w.heap.size 0 _ [1, 0, 4, 2, -1, 5] _ (HR.out.alloc _) (by omega) (lit_row _ (by decide) rfl rfl rfl) (by decide) (by simp [Value.ownBlock]; omega)).mono ?_
  rintro e w2 ⟨x, rfl, hx, hr, hg⟩
  have hb : Below w.heap.size w w2 := (HB.out.alloc (by omega) _).grown hg (by simp; omega) (fun k e => by cases e; exact Nat.le_refl _)
  have HB2 := Lib.hid hb
  have HX := Lib.hid hx
  clear hg hr hb hx
  go_wp2
  go_ret
  have h := HX.out
  simp at h
  exact ⟨x, rfl, by omega, HB2.out⟩
end Go.Proofs.Ytpgiinklbnlloaa
