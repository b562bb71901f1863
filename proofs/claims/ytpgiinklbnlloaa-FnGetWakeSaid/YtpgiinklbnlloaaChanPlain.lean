/- Channels: what it is for one to be valid. No program in sight. -/
import Derived.Test.YtpgiinklbnlloaaStChan
import Derived.Test.YtpgiinklbnlloaaWaits
namespace Go.Proofs.Ytpgiinklbnlloaa
def ChanHead (room : Int) (n : Nat) : Prop := 0 ≤ room ∧ room ≤ 4 ∧ (n : Int) ≤ room
instance (r : Int) (n : Nat) : Decidable (ChanHead r n) := by unfold ChanHead; infer_instance
def ChanTail (room : Int) (it : List Int) (sn : List (Int × Int)) (gt : List Int) (cl : Bool) : Prop := (0 < sn.length → (it.length : Int) = room ∧ gt.length = 0 ∧ cl = false) ∧ (gt.length = 0 ∨ it.length = 0 ∧ cl = false)
instance (r : Int) (it : List Int) (sn : List (Int × Int)) (gt : List Int) (cl : Bool) : Decidable (ChanTail r it sn gt cl) := by unfold ChanTail; infer_instance
def chanThr (c : ChanD) : List Int := c.senders.map (·.1) ++ c.getters
def ChanOk (c : ChanD) : Prop := ChanHead c.room c.items.length ∧ (∀ x ∈ c.items, Val x) ∧ (∀ s ∈ c.senders, Val s.2) ∧ Distinct (chanThr c) ∧ ChanTail c.room c.items c.senders c.getters c.closed
instance (c : ChanD) : Decidable (ChanOk c) := by unfold ChanOk; infer_instance
def chanB (c : ChanD) : Bool := decide (ChanOk c)
theorem chanB_true {c : ChanD} : chanB c = true ↔ ChanOk c := by simp [chanB]
theorem chanB_false {c : ChanD} : chanB c = false ↔ ¬ ChanOk c := by simp [chanB]
theorem chanB_head {c : ChanD} (h : ¬ ChanHead c.room c.items.length) : chanB c = false := chanB_false.2 fun k => h k.1
theorem chanB_item {c : ChanD} {k : Nat} {x : Int} (hx : c.items[k]? = some x) (h : valB x = false) : chanB c = false := chanB_false.2 fun hk => valB_false.1 h (hk.2.1 x (get_mem hx))
theorem chanB_send {c : ChanD} {k : Nat} {x : Int × Int} (hx : c.senders[k]? = some x) (h : valB x.2 = false) : chanB c = false := chanB_false.2 fun hk => valB_false.1 h (hk.2.2.1 x (get_mem hx))
theorem chanB_thr {c : ChanD} (h : distB (chanThr c) = false) : chanB c = false := chanB_false.2 fun hk => by
  simp only [distB, decide_eq_false_iff_not] at h; exact h hk.2.2.2.1
theorem chanB_tail {c : ChanD} (h : ¬ ChanTail c.room c.items c.senders c.getters c.closed) : chanB c = false := chanB_false.2 fun k => h k.2.2.2.2
theorem chanB_yes {c : ChanD} (h1 : ChanHead c.room c.items.length) (h2 : ∀ x ∈ c.items, Val x) (h3 : ∀ s ∈ c.senders, Val s.2) (h4 : distB (chanThr c) = true) (h5 : ChanTail c.room c.items c.senders c.getters c.closed) : chanB c = true :=
  chanB_true.2 ⟨h1, h2, h3, by simpa [distB] using h4, h5⟩
theorem ChanOk.small {c : ChanD} (h : ChanOk c) : c.items.length ≤ 4 ∧ c.senders.length + c.getters.length ≤ 6 := by
  have h1 := h.1
  have h2 := h.2.2.2.1.six
  unfold ChanHead at h1
  simp only [chanThr, List.length_append, List.length_map] at h2
  omega
end Go.Proofs.Ytpgiinklbnlloaa
