/- Plain facts and contracts for the laws on semaphores. -/
import Derived.Test.YteecnndlaphlpaaExSem
import Derived.Test.YteecnndlaphlpaaSemSame
import Derived.Test.YteecnndlaphlpaaSemValidS
import Derived.Test.YteecnndlaphlpaaBytes
namespace Go.Proofs.Yteecnndlaphlpaa
open Go.RowKit
set_option linter.unusedSimpArgs false
set_option linter.unusedVariables false
theorem SemSameO (v1 v2 : Value) (c d : SemD) (w : World) (h1 : SemRow w v1 c) (h2 : SemRow w v2 d) :
    Calls Try.prog 18 #[v1, v2] w fun e w' => e = .returned (.bool (decide (c = d))) ∧ Below w.heap.size w w' := by
  obtain ⟨a, p, rfl, hp⟩ := h1
  obtain ⟨b, q, rfl, hq⟩ := h2
  exact SemSame_calls c.free c.limit d.free d.limit _ _ c.q d.q w hp hq
theorem SemValidO (v : Value) (c : SemD) (w : World) (h : SemRow w v c) :
    Calls Try.prog 21 #[v] w fun e w' => e = .returned (.bool (semB c)) ∧ Below w.heap.size w w' := by
  obtain ⟨a, p, rfl, hp⟩ := h
  exact SemValid_calls c.free c.limit _ c.q w hp
theorem sSemValidO (v : Value) (c : SemD) (w : World) (h : SemRow w v c) :
    Calls Try.prog 23 #[v] w fun e w' => e = .returned (.bool (semB c)) ∧ Below w.heap.size w w' := by
  obtain ⟨a, p, rfl, hp⟩ := h
  exact sSemValid_calls c.free c.limit _ c.q w hp
theorem tryAcq_ok {s r : SemD} {n : Int} {b1 : Bool} (h : tryAcq s n = (r, b1, true)) : semB r = true ∧ semB s = true ∧ ((b1 = true ∧ s.q.length = 0 ∧ n ≤ s.free ∧ r = ⟨s.free - n, s.limit, s.q⟩) ∨ (b1 = false ∧ ¬ (s.q.length = 0 ∧ n ≤ s.free) ∧ r = s)) := by
  have h1 := semB_tryAcq (s := s) (c := n) (by rw [h])
  rw [h] at h1
  refine ⟨h1, ?_⟩
  unfold tryAcq at h
  split at h
  · rename_i hs
    split at h
    · rename_i hq; injection h with h1 h; injection h with h2 _; exact ⟨hs.1, .inl ⟨h2.symm, hq.1, hq.2, h1.symm⟩⟩
    · rename_i hq; injection h with h1 h; injection h with h2 _; exact ⟨hs.1, .inr ⟨h2.symm, hq, h1.symm⟩⟩
  · injection h with _ h; injection h with _ h; cases h
theorem acq_ok {s r : SemD} {t n : Int} {b1 : Bool} (h : acq s t n = (r, b1, true)) : semB r = true ∧ semB s = true ∧ thrB t = true ∧ t ∉ s.q.map (·.1) ∧ 1 ≤ n ∧ n ≤ s.limit ∧
    ((b1 = true ∧ s.q.length = 0 ∧ n ≤ s.free ∧ r = ⟨s.free - n, s.limit, s.q⟩) ∨ (b1 = false ∧ ¬ (s.q.length = 0 ∧ n ≤ s.free) ∧ r = ⟨s.free, s.limit, s.q ++ [(t, n)]⟩)) := by
  have h1 := semB_acq (s := s) (t := t) (c := n) (by rw [h])
  rw [h] at h1
  refine ⟨h1, ?_⟩
  unfold acq at h
  split at h
  · rename_i hs
    obtain ⟨s1, s2, s3, s4, s5⟩ := hs
    split at h
    · rename_i hq; injection h with h1 h; injection h with h2 _; exact ⟨s1, s2, s3, s4, s5, .inl ⟨h2.symm, hq.1, hq.2, h1.symm⟩⟩
    · rename_i hq; injection h with h1 h; injection h with h2 _; exact ⟨s1, s2, s3, s4, s5, .inr ⟨h2.symm, hq, h1.symm⟩⟩
  · injection h with _ h; injection h with _ h; cases h
theorem rel_ok {s r : SemD} {n : Int} {y : List Int} (h : rel s n = (r, y, true)) : semB r = true ∧ semB s = true ∧ 1 ≤ n ∧ n ≤ s.limit - s.free ∧ r = ⟨(serve (s.free + n) s.q).1, s.limit, (serve (s.free + n) s.q).2.1⟩ ∧ y = (serve (s.free + n) s.q).2.2 := by
  have h1 := semB_rel (s := s) (c := n) (by rw [h])
  rw [h] at h1
  refine ⟨h1, ?_⟩
  unfold rel at h
  split at h
  · rename_i hs
    injection h with h1 h; injection h with h2 _; exact ⟨hs.1, hs.2.1, hs.2.2, h1.symm, h2.symm⟩
  · injection h with _ h; injection h with _ h; cases h
end Go.Proofs.Yteecnndlaphlpaa
