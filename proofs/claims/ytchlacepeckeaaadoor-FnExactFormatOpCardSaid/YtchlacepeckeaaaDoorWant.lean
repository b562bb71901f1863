/- Slices of structs of an int and a bool. -/
import Derived.Test.YtchlacepeckeaaaDoorOwn2
namespace Go.Proofs.YtchlacepeckeaaaDoor
open Go.RowKit
set_option linter.unusedSimpArgs false
set_option linter.unusedVariables false
def encW (x : Int × Bool) : List Value := [.int .i64 x.1, .bool x.2]
theorem encW_len (x : Int × Bool) : (encW x).length = 2 := rfl
theorem one_want (x : Int × Bool) : ∀ u ∈ encW x, u.oneCell' = true := fun u hu => by simp only [encW, List.mem_cons, List.not_mem_nil, or_false] at hu; rcases hu with rfl | rfl <;> rfl
def WRow (w : World) (v : Value) (q : List (Int × Bool)) : Prop := Row 2 encW w v q
theorem WRow.look {w : World} {v : Value} {q : List (Int × Bool)} (h : WRow w v q) :
    ∃ a cap, v = .slice a q.length cap ∧ q.length ≤ cap ∧ cap ≤ 9223372036854775807 ∧
      (0 < q.length → ∃ b off, a = some ⟨b, off, none⟩ ∧ b < w.heap.size ∧
        ∀ i x, q[i]? = some x → w.cell? ⟨b, off + i * 2, none⟩ = some (.int .i64 x.1) ∧ w.cell? ⟨b, off + i * 2 + 1, none⟩ = some (.bool x.2)) := by
  obtain ⟨a, cap, e, h1, h2, h3, h4⟩ := h
  refine ⟨a, cap, e, h1, h2, fun hn => ?_⟩
  obtain ⟨b, off, e2, hlt, hc⟩ := h4 hn
  exact ⟨b, off, e2, hlt, fun i x hx => ⟨by simpa using hc i x hx 0 _ rfl, by simpa using hc i x hx 1 _ rfl⟩⟩
end Go.Proofs.YtchlacepeckeaaaDoor
