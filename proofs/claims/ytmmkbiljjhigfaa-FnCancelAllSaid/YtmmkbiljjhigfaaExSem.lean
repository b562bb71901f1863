/- Functions on semaphores, in the exact laws' words. -/
import Derived.Test.YtmmkbiljjhigfaaStSem
import Derived.Test.YtmmkbiljjhigfaaTryAcquire
import Derived.Test.YtmmkbiljjhigfaaAcquire
import Derived.Test.YtmmkbiljjhigfaaAcquireS
import Derived.Test.YtmmkbiljjhigfaaRelease
import Derived.Test.YtmmkbiljjhigfaaSemLaws
import Derived.Test.YtmmkbiljjhigfaaSpanI
namespace Go.Proofs.Ytmmkbiljjhigfaa
open Go.RowKit
set_option linter.unusedSimpArgs false
set_option linter.unusedVariables false
theorem SemOwn.of {lo hi : Nat} {w : World} {f l : Int} {v : Value} {q : List (Int × Int)} (h : Own lo 62 2 encP w v q) (hh : w.heap.size ≤ hi) : SemOwn lo hi w (.agg #[.int .i64 f, .int .i64 l, v]) ⟨f, l, q⟩ := by
  obtain ⟨ad, cp, rfl⟩ := h.form
  exact ⟨ad, cp, rfl, h, fun g e => Nat.lt_of_lt_of_le (h.hi g e) hh⟩
theorem semB_len {s : SemD} (h : semB s = true) : s.q.length ≤ 6 := (semB_true.1 h).1.2.2.2.2
theorem tryAcq_small {s r : SemD} {c : Int} {b1 b2 : Bool} (h : tryAcq s c = (r, b1, b2)) : r.q.length ≤ 7 := by
  unfold tryAcq at h
  split at h
  · rename_i hs
    have := semB_len hs.1
    split at h <;> (injection h with h _; subst h; first | omega | (simp only; omega))
  · injection h with h _; subst h; simp [SemD.zero]
theorem acq_small {s r : SemD} {t c : Int} {b1 b2 : Bool} (h : acq s t c = (r, b1, b2)) : r.q.length ≤ 7 := by
  unfold acq at h
  split at h
  · rename_i hs
    have := semB_len hs.1
    split at h <;> (injection h with h _; subst h; first | omega | (simp only [List.length_append, List.length_singleton]; omega))
  · injection h with h _; subst h; simp [SemD.zero]
theorem serve_len (f : Int) (q : List (Int × Int)) : (serve f q).2.1.length + (serve f q).2.2.length = q.length := by
  induction q generalizing f with
  | nil => simp [serve]
  | cons x r ih =>
    simp only [serve]
    split
    · have := ih (f - x.2); simp only [List.length_cons]; omega
    · simp
theorem rel_small {s r : SemD} {c : Int} {y : List Int} {b : Bool} (h : rel s c = (r, y, b)) : r.q.length ≤ 7 ∧ y.length ≤ 7 := by
  unfold rel at h
  split at h
  · rename_i hs
    have h1 := semB_len hs.1
    have h2 := serve_len (s.free + c) s.q
    injection h with h h'; injection h' with h' _; subst h h'; simp only; omega
  · injection h with h h'; injection h' with h' _; subst h h'; simp [SemD.zero]
theorem AcquireO (v : Value) (s : SemD) (t c : Int) (r : SemD) (b1 b2 : Bool) (w : World) (h : SemRow w v s) (hr : acq s t c = (r, b1, b2)) :
    Calls Try.prog 33 #[v, .int .i64 t, .int .i64 c] w fun e w' => ∃ v', e = .returned (.tuple #[v', .bool b1, .bool b2]) ∧ SemOwn w.heap.size w'.heap.size w' v' r ∧ Below w.heap.size w w' := by
  obtain ⟨a, p, rfl, hq⟩ := h
  refine (Acquire_calls s.free s.limit t c _ s.q w hq).mono ?_
  rintro e w' ⟨qv, rfl, ho, hb⟩
  rw [show (⟨s.free, s.limit, s.q⟩ : SemD) = s from rfl, hr] at ho
  rw [show (⟨s.free, s.limit, s.q⟩ : SemD) = s from rfl, hr]
  exact ⟨_, rfl, SemOwn.of ho (Nat.le_refl _), hb⟩
theorem sAcquireO (v : Value) (s : SemD) (t c : Int) (r : SemD) (b1 b2 : Bool) (w : World) (h : SemRow w v s) (hr : acq s t c = (r, b1, b2)) :
    Calls Try.prog 34 #[v, .int .i64 t, .int .i64 c] w fun e w' => ∃ v', e = .returned (.tuple #[v', .bool b1, .bool b2]) ∧ SemOwn w.heap.size w'.heap.size w' v' r ∧ Below w.heap.size w w' := by
  obtain ⟨a, p, rfl, hq⟩ := h
  refine (sAcquire_calls s.free s.limit t c _ s.q w hq).mono ?_
  rintro e w' ⟨qv, rfl, ho, hb⟩
  rw [show (⟨s.free, s.limit, s.q⟩ : SemD) = s from rfl, hr] at ho
  rw [show (⟨s.free, s.limit, s.q⟩ : SemD) = s from rfl, hr]
  exact ⟨_, rfl, SemOwn.of ho (Nat.le_refl _), hb⟩
theorem SemOwn.free {lo : Nat} {w : World} {f l : Int} {v u : Value} {q : List (Int × Int)} {y : List Int} (h : Own lo 62 2 encP w v q) (hg : Own lo 3 1 encI w u y) : Free u (.agg #[.int .i64 f, .int .i64 l, v]) := by
  intro g e hm
  simp only [aggBlocks, List.map_cons, List.map_nil, List.mem_cons, List.not_mem_nil, or_false, Value.ownBlock] at hm
  rcases hm with hm | hm | hm
  · cases hm
  · cases hm
  · exact (Own.apart_types hg h (by decide)) g e hm.symm
theorem ReleaseO (v : Value) (s : SemD) (c : Int) (r : SemD) (y : List Int) (b1 : Bool) (w : World) (h : SemRow w v s) (hr : rel s c = (r, y, b1)) :
    Calls Try.prog 36 #[v, .int .i64 c] w fun e w' => ∃ v' u', e = .returned (.tuple #[v', u', .bool b1]) ∧ SemOwn w.heap.size w'.heap.size w' v' r ∧ LOwn w.heap.size w'.heap.size w' u' y ∧ Free u' v' ∧ Below w.heap.size w w' := by
  obtain ⟨a, p, rfl, hq⟩ := h
  refine (Release_calls s.free s.limit c _ s.q w hq).mono ?_
  rintro e w' ⟨qv, gv, rfl, ho, hg, hb⟩
  rw [show (⟨s.free, s.limit, s.q⟩ : SemD) = s from rfl, hr] at ho hg
  rw [show (⟨s.free, s.limit, s.q⟩ : SemD) = s from rfl, hr]
  exact ⟨_, _, rfl, SemOwn.of ho (Nat.le_refl _), LOwn.of hg (Nat.le_refl _), SemOwn.free ho hg, hb⟩
theorem sReleaseO (v : Value) (s : SemD) (c : Int) (r : SemD) (y : List Int) (b1 : Bool) (w : World) (h : SemRow w v s) (hr : rel s c = (r, y, b1)) :
    Calls Try.prog 93 #[v, .int .i64 c] w fun e w' => ∃ v' u', e = .returned (.tuple #[v', u', .bool b1]) ∧ SemOwn w.heap.size w'.heap.size w' v' r ∧ LOwn w.heap.size w'.heap.size w' u' y ∧ Free u' v' ∧ Below w.heap.size w w' := by
  obtain ⟨a, p, rfl, hq⟩ := h
  refine (sRelease_calls s.free s.limit c _ s.q w hq).mono ?_
  rintro e w' ⟨qv, gv, rfl, ho, hg, hb⟩
  rw [show (⟨s.free, s.limit, s.q⟩ : SemD) = s from rfl, hr] at ho hg
  rw [show (⟨s.free, s.limit, s.q⟩ : SemD) = s from rfl, hr]
  exact ⟨_, _, rfl, SemOwn.of ho (Nat.le_refl _), LOwn.of hg (Nat.le_refl _), SemOwn.free ho hg, hb⟩
end Go.Proofs.Ytmmkbiljjhigfaa
