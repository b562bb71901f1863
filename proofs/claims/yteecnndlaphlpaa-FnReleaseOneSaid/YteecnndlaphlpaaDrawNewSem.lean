/- DrawNewSem. -/
import Derived.Test.YteecnndlaphlpaaRd
namespace Go.Proofs.Yteecnndlaphlpaa
open Go.RowKit
set_option linter.unusedSimpArgs false
set_option linter.unusedVariables false

theorem lit_row {w : World} {E : Nat} (xs : List Int) (hn : xs.length ≤ 1000) {cs : Array Value} (hcs : cs = (xs.map (Value.int .i64)).toArray) {n : Nat} (hl : n = xs.length) {H : Nat} (hH : w.heap.size = H) : IRow (w.alloc (.cells cs E)) (.slice (some ⟨H, 0, none⟩) n n) xs := by
  subst hcs hl hH
  refine ⟨_, _, rfl, Nat.le_refl _, by omega, (fun e => by cases e), fun _ => ⟨w.heap.size, 0, rfl, by simp, fun i x hx j u hu => ?_⟩⟩
  match j, hu with
  | 0, hu =>
    simp only [encI, List.getElem?_cons_zero, Option.some.injEq] at hu
    subst hu
    rw [cell_of_row _ w.heap.size (0 + i * 1 + 0) _ E (0, 0) (heap_alloc_new w _)]
    simp [hx]
  | j + 1, hu => simp [encI] at hu

theorem DrawNewSem_calls (v : Value) (bs : List Int) (w : World) (h : Row 1 encB w v bs) (hbs : ∀ x ∈ bs, 0 ≤ x ∧ x ≤ 255) :
    Calls Try.prog 15 #[v] w fun e w' => ∃ x : Int, e = .returned (.int .i64 x) ∧ 0 ≤ x ∧ x ≤ 10 ∧ Below w.heap.size w w' := by
  go_enter Try.func15, Try.ntmps15
  go_wp2_with (fail)
  refine (l13Open_calls v bs _ h hbs).mono ?_
  rintro e w1 ⟨rfl, hr, hb⟩
  have HR := Lib.hid hr
  have HB := Lib.hid hb
  have hz : w.heap.size < w1.heap.size := by obtain ⟨_, _, _, hx, _⟩ := hr; exact heap_lt hx
  clear hr hb
  go_wp2_with (fail)
  refine (num_calls w.heap.size 0 _ [2, 1, 9, 3, 0, 10] _ (HR.out.alloc _) (by omega) (lit_row _ (by decide) rfl rfl rfl) (by decide) (by simp [Value.ownBlock]; omega)).mono ?_
  rintro e w2 ⟨x, rfl, hx, hr, hg⟩
  have hb : Below w.heap.size w w2 := (HB.out.alloc (by omega) _).grown hg (by simp; omega) (fun k e => by cases e; exact Nat.le_refl _)
  have HB2 := Lib.hid hb
  have HX := Lib.hid hx
  clear hg hr hb hx
  go_wp2
  go_ret
  have h := HX.out
  simp at h
  exact ⟨x, rfl, by omega, by omega, HB2.out⟩
end Go.Proofs.Yteecnndlaphlpaa
