/- Plain facts for FnWriterAlone. No program in sight. -/
import Derived.Test.YtbnfhnfnbhigoaaLockHolds
namespace Go.Proofs.Ytbnfhnfnbhigoaa
def cntB (l : LockD) (k : Nat) : Nat := ((List.range k).filter fun (t : Nat) => hasB l (t : Int)).length
theorem cntB_succ (l : LockD) (k : Nat) : cntB l (k + 1) = cntB l k + (hasB l (k : Int)).toNat := by
  unfold cntB
  rw [List.range_succ, List.filter_append, List.length_append]
  cases h : hasB l (k : Int) <;> simp [List.filter, h]
theorem cntB_le (l : LockD) : ∀ k, cntB l k ≤ k
  | 0 => by simp [cntB]
  | k + 1 => by rw [cntB_succ]; have := cntB_le l k; cases hasB l (k : Int) <;> simp <;> omega
theorem holdsB_at {l : LockD} (h : lockB l = true) {k : Nat} (hk : k < 6) : holdsB l (k : Int) = hasB l (k : Int) := by
  unfold holdsB; rw [h, thrB_true.2 (show Thr (k : Int) by unfold Thr; omega)]; simp
theorem lock_writer {l : LockD} (h : lockB l = true) (hw : ¬ l.writer = -1) : cntB l 6 = 1 ∧ holdsB l l.writer = true := by
  have hk := lockB_true.1 h
  obtain ⟨_, h2, h3, _⟩ := hk
  have hr : l.readers = [] := List.length_eq_zero_iff.1 (h2.resolve_left hw)
  have ht : Thr l.writer := h3.1 _ (by simp [lockAll, wrL, hw])
  have hh : holdsB l l.writer = true := by unfold holdsB; rw [h, thrB_true.2 ht]; simp [hasB]
  refine ⟨?_, hh⟩
  have e : ∀ t : Nat, hasB l (t : Int) = decide (l.writer = (t : Int)) := fun t => by simp [hasB, hr]
  unfold cntB
  simp only [e]
  unfold Thr at ht
  obtain ⟨n, hn⟩ := Int.eq_ofNat_of_zero_le ht.1
  rw [hn]
  have hn6 : n < 6 := by omega
  match n, hn6 with
  | 0, _ => decide
  | 1, _ => decide
  | 2, _ => decide
  | 3, _ => decide
  | 4, _ => decide
  | 5, _ => decide
theorem lock_readers {l : LockD} (h : lockB l = true) (hw : l.writer = -1) : cntB l 6 = l.readers.length := by
  have hk := lockB_true.1 h
  obtain ⟨_, _, h3, _⟩ := hk
  have e : ∀ t : Nat, hasB l (t : Int) = decide ((t : Int) ∈ l.readers) := fun t => by
    have : ¬ (-1 : Int) = (t : Int) := by omega
    simp [hasB, hw, this]
  have hd : Distinct l.readers := ⟨fun x hx => h3.1 x (by simp [lockAll, hx]), (List.nodup_append.1 (List.nodup_append.1 h3.2).1).1⟩
  have hp : (((List.range 6).filter fun (t : Nat) => hasB l (t : Int)).map fun (t : Nat) => (t : Int)).Perm l.readers := by
    refine (List.perm_ext_iff_of_nodup ?_ hd.2).2 fun x => ?_
    · refine List.Pairwise.map _ (fun a b hab hc => hab (by omega)) ((List.nodup_range).filter _)
    · simp only [List.mem_map, List.mem_filter, List.mem_range, e, decide_eq_true_eq]
      constructor
      · rintro ⟨t, ⟨_, h8⟩, rfl⟩; exact h8
      · intro hx
        have ht := hd.1 x hx
        unfold Thr at ht
        obtain ⟨n, rfl⟩ := Int.eq_ofNat_of_zero_le ht.1
        exact ⟨n, ⟨by omega, hx⟩, rfl⟩
  have := hp.length_eq
  rw [List.length_map] at this
  exact this
end Go.Proofs.Ytbnfhnfnbhigoaa
