/- Plain facts for the laws on onces. -/
import Derived.Test.YtmmkbiljjhigfaaDrawOnce1
import Derived.Test.YtmmkbiljjhigfaaOnceEnterI
import Derived.Test.YtmmkbiljjhigfaaOnceSame
import Derived.Test.YtmmkbiljjhigfaaBytes
namespace Go.Proofs.Ytmmkbiljjhigfaa
open Go.RowKit
set_option linter.unusedSimpArgs false
set_option linter.unusedVariables false
theorem zeroRow (w : World) : OnceRow w (.agg #[.int .i64 0, .int .i64 0, .int .i64 0, .slice none 0 0]) OnceD.zero := (OnceOwn.nils (lo := 0) (hi := 0) (w := w) (st := 0) (ow := 0) (va := 0)).row
theorem once_owner {o : OnceD} (h : onceB o = true) : 0 ≤ o.owner ∧ o.owner ≤ 5 := by
  rcases onceB_st h with ⟨_, h, _⟩ | ⟨_, h, _⟩ | ⟨_, h, _⟩
  · omega
  · unfold Thr at h; omega
  · unfold Thr at h; omega
theorem next_thr (x : Int) : thrB ((x + 1) % 6) = true := by
  have h6 : 0 ≤ (x + 1) % 6 ∧ (x + 1) % 6 < 6 := by omega
  simpa [thrB, Thr] using h6
theorem enter_done {o : OnceD} {t : Int} (h : onceB o = true) (hs : o.state = 2) (ht : thrB t = true) : enter o t = (o, 2, true) := by
  unfold enter; rw [if_pos ⟨h, ht⟩, if_neg (by omega), if_pos hs]
theorem enter_new {o : OnceD} {t : Int} (h : onceB o = true) (hs : o.state = 0) (ht : thrB t = true) : enter o t = (⟨1, t, 0, []⟩, 0, true) := by
  unfold enter; rw [if_pos ⟨h, ht⟩, if_pos hs]
theorem once_zero {o : OnceD} (h : onceB o = true) (hs : o.state = 0) : o = OnceD.zero := by
  rcases onceB_st h with ⟨h1, h2, h3, h4⟩ | ⟨h1, _⟩ | ⟨h1, _⟩
  · cases o; simp_all [OnceD.zero]
  · omega
  · omega
theorem once_runs {o : OnceD} (h : onceB o = true) (h0 : ¬ o.state = 0) (h2 : ¬ o.state = 2) : o.state = 1 ∧ o.value = 0 := by
  rcases onceB_st h with ⟨h1, _⟩ | ⟨h1, _, k, _⟩ | ⟨h1, _⟩
  · exact absurd h1 h0
  · exact ⟨h1, k⟩
  · exact absurd h1 h2
theorem enter_runs {o r : OnceD} {t st : Int} (hs : o.state = 1) (h : enter o t = (r, st, true)) : r.waits.length = o.waits.length + 1 := by
  unfold enter at h
  split at h
  · rw [if_neg (by omega), if_neg (by omega)] at h
    split at h
    · injection h with _ h; injection h with _ h; cases h
    · injection h with h _; subst h; simp
  · injection h with _ h; injection h with _ h; cases h
end Go.Proofs.Ytmmkbiljjhigfaa
