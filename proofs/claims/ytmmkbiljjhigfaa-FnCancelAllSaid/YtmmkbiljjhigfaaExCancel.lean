/- CancelWait of both, in the exact laws' words. -/
import Derived.Test.YtmmkbiljjhigfaaStSem
import Derived.Test.YtmmkbiljjhigfaaCancelS
import Derived.Test.YtmmkbiljjhigfaaExI
import Derived.Test.YtmmkbiljjhigfaaSpanI
namespace Go.Proofs.Ytmmkbiljjhigfaa
open Go.RowKit
set_option linter.unusedSimpArgs false
set_option linter.unusedVariables false
theorem SemOwn.of {lo hi : Nat} {w : World} {f l : Int} {v : Value} {q : List (Int × Int)} (h : Own lo 62 2 encP w v q) (hh : w.heap.size ≤ hi) : SemOwn lo hi w (.agg #[.int .i64 f, .int .i64 l, v]) ⟨f, l, q⟩ := by
  obtain ⟨ad, cp, rfl⟩ := h.form
  exact ⟨ad, cp, rfl, h, fun g e => Nat.lt_of_lt_of_le (h.hi g e) hh⟩
theorem semB_len {s : SemD} (h : semB s = true) : s.q.length ≤ 6 := (semB_true.1 h).1.2.2.2.2
theorem serve_len (f : Int) (q : List (Int × Int)) : (serve f q).2.1.length + (serve f q).2.2.length = q.length := by
  induction q generalizing f with
  | nil => simp [serve]
  | cons x r ih =>
    simp only [serve]
    split
    · have := ih (f - x.2); simp only [List.length_cons]; omega
    · simp
theorem cancel_small {s r : SemD} {t : Int} {y : List Int} {b : Bool} (h : cancel s t = (r, y, b)) : r.q.length ≤ 7 ∧ y.length ≤ 7 := by
  unfold cancel at h
  split at h
  · rename_i hs
    have h1 := semB_len hs.1
    have h2 := serve_len s.free (cut s.q (findW t s.q).toNat)
    have h3 : (cut s.q (findW t s.q).toNat).length ≤ s.q.length := by simp [cut]; omega
    injection h with h h'; injection h' with h' _; subst h h'; simp only; omega
  · injection h with h h'; injection h' with h' _; subst h h'; simp [SemD.zero]
theorem SemOwn.free {lo : Nat} {w : World} {f l : Int} {v u : Value} {q : List (Int × Int)} {y : List Int} (h : Own lo 62 2 encP w v q) (hg : Own lo 3 1 encI w u y) : Free u (.agg #[.int .i64 f, .int .i64 l, v]) := by
  intro g e hm
  simp only [aggBlocks, List.map_cons, List.map_nil, List.mem_cons, List.not_mem_nil, or_false, Value.ownBlock] at hm
  rcases hm with hm | hm | hm
  · cases hm
  · cases hm
  · exact (Own.apart_types hg h (by decide)) g e hm.symm
theorem CancelWaitO (v : Value) (s : SemD) (t : Int) (r : SemD) (y : List Int) (b1 : Bool) (w : World) (h : SemRow w v s) (hr : cancel s t = (r, y, b1)) :
    Calls Try.prog 39 #[v, .int .i64 t] w fun e w' => ∃ v' u', e = .returned (.tuple #[v', u', .bool b1]) ∧ SemOwn w.heap.size w'.heap.size w' v' r ∧ LOwn w.heap.size w'.heap.size w' u' y ∧ Free u' v' ∧ Below w.heap.size w w' := by
  obtain ⟨a, p, rfl, hq⟩ := h
  refine (CancelWait_calls s.free s.limit t _ s.q w hq).mono ?_
  rintro e w' ⟨qv, gv, rfl, ho, hg, hb⟩
  rw [show (⟨s.free, s.limit, s.q⟩ : SemD) = s from rfl, hr] at ho hg
  rw [show (⟨s.free, s.limit, s.q⟩ : SemD) = s from rfl, hr]
  exact ⟨_, _, rfl, SemOwn.of ho (Nat.le_refl _), LOwn.of hg (Nat.le_refl _), SemOwn.free ho hg, hb⟩
theorem sCancelWaitO (v : Value) (s : SemD) (t : Int) (r : SemD) (y : List Int) (b1 : Bool) (w : World) (h : SemRow w v s) (hr : cancel s t = (r, y, b1)) :
    Calls Try.prog 41 #[v, .int .i64 t] w fun e w' => ∃ v' u', e = .returned (.tuple #[v', u', .bool b1]) ∧ SemOwn w.heap.size w'.heap.size w' v' r ∧ LOwn w.heap.size w'.heap.size w' u' y ∧ Free u' v' ∧ Below w.heap.size w w' := by
  obtain ⟨a, p, rfl, hq⟩ := h
  refine (sCancelWait_calls s.free s.limit t _ s.q w hq).mono ?_
  rintro e w' ⟨qv, gv, rfl, ho, hg, hb⟩
  rw [show (⟨s.free, s.limit, s.q⟩ : SemD) = s from rfl, hr] at ho hg
  rw [show (⟨s.free, s.limit, s.q⟩ : SemD) = s from rfl, hr]
  exact ⟨_, _, rfl, SemOwn.of ho (Nat.le_refl _), LOwn.of hg (Nat.le_refl _), SemOwn.free ho hg, hb⟩
end Go.Proofs.Ytmmkbiljjhigfaa
