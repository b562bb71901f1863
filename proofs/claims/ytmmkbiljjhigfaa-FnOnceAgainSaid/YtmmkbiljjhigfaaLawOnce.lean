/- Plain facts for the laws on onces. -/
import Derived.Test.YtmmkbiljjhigfaaDrawOnce1
import Derived.Test.YtmmkbiljjhigfaaOnceEnterI
import Derived.Test.YtmmkbiljjhigfaaOnceEnterS
import Derived.Test.YtmmkbiljjhigfaaOnceSame
import Derived.Test.YtmmkbiljjhigfaaBytes
namespace Go.Proofs.Ytmmkbiljjhigfaa
open Go.RowKit
set_option linter.unusedSimpArgs false
set_option linter.unusedVariables false
theorem zeroRow (w : World) : OnceRow w (.agg #[.int .i64 0, .int .i64 0, .int .i64 0, .slice none 0 0]) OnceD.zero := (OnceOwn.nils (lo := 0) (hi := 0) (w := w) (st := 0) (ow := 0) (va := 0)).row
theorem once_owner {o : OnceD} (h : onceB o = true) : 0 ≤ o.owner ∧ o.owner ≤ 5 := by
  rcases onceB_st h with ⟨_, h, _⟩ | ⟨_, h, _⟩ | ⟨_, h, _⟩
  · omega
  · unfold Thr at h; omega
  · unfold Thr at h; omega
theorem next_thr (x : Int) : thrB ((x + 1) % 6) = true := by
  have h6 : 0 ≤ (x + 1) % 6 ∧ (x + 1) % 6 < 6 := by omega
  simpa [thrB, Thr] using h6
theorem enter_done {o : OnceD} {t : Int} (h : onceB o = true) (hs : o.state = 2) (ht : thrB t = true) : enter o t = (o, 2, true) := by
  unfold enter; rw [if_pos ⟨h, ht⟩, if_neg (by omega), if_pos hs]
theorem enter_new {o : OnceD} {t : Int} (h : onceB o = true) (hs : o.state = 0) (ht : thrB t = true) : enter o t = (⟨1, t, 0, []⟩, 0, true) := by
  unfold enter; rw [if_pos ⟨h, ht⟩, if_pos hs]
theorem once_zero {o : OnceD} (h : onceB o = true) (hs : o.state = 0) : o = OnceD.zero := by
  rcases onceB_st h with ⟨h1, h2, h3, h4⟩ | ⟨h1, _⟩ | ⟨h1, _⟩
  · cases o; simp_all [OnceD.zero]
  · omega
  · omega
theorem once_runs {o : OnceD} (h : onceB o = true) (h0 : ¬ o.state = 0) (h2 : ¬ o.state = 2) : o.state = 1 ∧ o.value = 0 := by
  rcases onceB_st h with ⟨h1, _⟩ | ⟨h1, _, k, _⟩ | ⟨h1, _⟩
  · exact absurd h1 h0
  · exact ⟨h1, k⟩
  · exact absurd h1 h2
theorem IRow.at1 {w : World} {a : Option Addr} {n c : Nat} {xs : List Int} (h : IRow w (.slice a n c) xs) : 0 < xs.length → ∃ b off, a = some ⟨b, off, none⟩ ∧ b < w.heap.size ∧ ∀ i x, xs[i]? = some x → w.cell? ⟨b, off + i, none⟩ = some (.int .i64 x) := by
  obtain ⟨a', c', e, _, _, h⟩ := h.look
  injection e with e1 _ _; subst e1; exact h
theorem OnceRow.at1 {w : World} {x y z : Value} {a : Option Addr} {n p : Nat} {c : OnceD} (h : OnceRow w (.agg #[x, y, z, .slice a n p]) c) : IRow w (.slice a n p) c.waits := by
  obtain ⟨a', p', e, h⟩ := h
  simp only [Value.agg.injEq, Array.mk.injEq, List.cons.injEq, and_true] at e
  obtain ⟨_, _, _, e⟩ := e
  rw [e]; exact h
theorem enter_cases {o r : OnceD} {t st : Int} (h : enter o t = (r, st, true)) : onceB r = true ∧ onceB o = true ∧ ((st = 0 ∧ r.owner = t ∧ r.state = 1) ∨ (st = 2 ∧ r = o) ∨ (st = 1 ∧ r.owner = o.owner ∧ r.waits = o.waits ++ [t])) := by
  have hv := enter_ok h rfl
  unfold enter at h
  split at h
  · rename_i hs
    refine ⟨hv, hs.1, ?_⟩
    split at h
    · injection h with h1 h; injection h with h2 _; subst h1; exact .inl ⟨h2.symm, rfl, rfl⟩
    · split at h
      · injection h with h1 h; injection h with h2 _; exact .inr (.inl ⟨h2.symm, h1.symm⟩)
      · split at h
        · injection h with _ h; injection h with _ h; cases h
        · injection h with h1 h; injection h with h2 _; subst h1; exact .inr (.inr ⟨h2.symm, rfl, rfl⟩)
  · injection h with _ h; injection h with _ h; cases h
theorem enter_runs {o r : OnceD} {t st : Int} (hs : o.state = 1) (h : enter o t = (r, st, true)) : r.waits.length = o.waits.length + 1 := by
  unfold enter at h
  split at h
  · rw [if_neg (by omega), if_neg (by omega)] at h
    split at h
    · injection h with _ h; injection h with _ h; cases h
    · injection h with h _; subst h; simp
  · injection h with _ h; injection h with _ h; cases h
theorem enter_thr {o r : OnceD} {t st : Int} (h : enter o t = (r, st, true)) : 0 ≤ t ∧ t < 6 := by
  unfold enter at h
  split at h
  · rename_i hs; exact thrB_true.1 hs.2
  · injection h with _ h; injection h with _ h; cases h
theorem finish_got {o r : OnceD} {t x : Int} {y : List Int} (h : finish o t x = (r, y, true)) : onceB r = true ∧ r.state = 2 ∧ r.value = x ∧ y = o.waits := by
  have hv := finish_ok h rfl
  cases hn : (runsB o t && valB x)
  · obtain ⟨_, _, k⟩ := finish_no h hn; cases k
  · obtain ⟨h1, h2, _⟩ := finish_yes h hn; subst h1; exact ⟨hv, rfl, rfl, h2⟩
theorem finish_again {r : OnceD} (h : r.state = 2) (t x : Int) : finish r t x = (OnceD.zero, [], false) := by
  unfold finish; rw [if_neg (by simp [runsB, h])]
/-- A new once after k threads have come, from thread y on. -/
def onceK (y : Int) : Nat → OnceD
  | 0 => OnceD.zero
  | k + 1 => ⟨1, y, 0, (List.range k).map fun (j : Nat) => ((j : Int) + 1 + y) % 6⟩
theorem one_all : (List.range 6).all (fun a => (List.range 6).all fun k => decide (enter (onceK a k) (((k : Int) + (a : Int)) % 6) = (onceK a (k + 1), (if k = 0 then 0 else 1), true))) = true := by decide +kernel
theorem one_step (y : Int) (k : Nat) (h0 : 0 ≤ y) (h1 : y ≤ 5) (hk : k < 6) : enter (onceK y k) (((k : Int) + y) % 6) = (onceK y (k + 1), (if k = 0 then 0 else 1), true) := by
  obtain ⟨a, rfl⟩ := Int.eq_ofNat_of_zero_le h0
  have h := List.all_eq_true.1 (List.all_eq_true.1 one_all a (List.mem_range.2 (by omega))) k (List.mem_range.2 hk)
  exact of_decide_eq_true h
theorem thr_nat {k : Nat} (h : k < 6) : thrB (k : Int) = true := thrB_true.2 (by unfold Thr; omega)
end Go.Proofs.Ytmmkbiljjhigfaa
