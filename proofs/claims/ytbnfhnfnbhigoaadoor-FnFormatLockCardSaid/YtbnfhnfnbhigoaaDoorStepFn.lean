/- A call of a Go function at a step of a region that draws its order. -/
import Derived.Test.YtbnfhnfnbhigoaaDoorStep
import Derived.Test.YtbnfhnfnbhigoaaDoorOwnB
namespace Go.Proofs.YtbnfhnfnbhigoaaDoor
open Go.RowKit
set_option linter.unusedSimpArgs false
set_option linter.unusedVariables false
theorem step_fn {P : Program} {ops : Array Oper} {o : Oper} {a : Act} {w : World} {K : Act → World → Prop} {Q : Exit → Act → World → Prop} {E : Prop} (hgd : o.guard = none) (f : Nat) (args : Array Value)
    (ho : (execOp a.eval o).run P w = .ok (.enter f args) w) (h : Calls P f args w fun e w' => ∃ v, e = .returned v ∧ K (a.put o.dst v) w') :
    if Region.wanted o (yielded ops a.tmps) = true then Oper.wp P o a w K Q else E := by
  have hw : Region.wanted o (yielded ops a.tmps) = true := by simp [Region.wanted, hgd]
  rw [if_pos hw]
  unfold Oper.wp
  rw [ho]
  refine Calls.mono h ?_
  rintro e w' ⟨v, rfl, hk⟩
  exact hk
theorem lit_pair {w : World} {H E : Nat} {fr : Nat × Nat} {y z : Int} (h : w.heap[H]? = some (.cells #[.int .i64 y, .int .i64 z] E fr)) : PRow w (.slice (some ⟨H, 0, none⟩) 1 1) [(y, z)] := by
  refine ⟨_, _, rfl, Nat.le_refl _, by decide, (fun e => by cases e), fun _ => ⟨H, 0, rfl, heap_lt h, fun i x hx j u hu => ?_⟩⟩
  match i, hx with
  | i + 1, hx => simp at hx
  | 0, hx =>
    simp only [List.getElem?_cons_zero, Option.some.injEq] at hx
    subst hx
    match j, hu with
    | 0, hu => simp only [encP, List.getElem?_cons_zero, Option.some.injEq] at hu; subst hu; simp [World.cell?, h]
    | 1, hu => simp only [encP, List.getElem?_cons_succ, List.getElem?_cons_zero, Option.some.injEq] at hu; subst hu; simp [World.cell?, h]
    | j + 2, hu => simp [encP] at hu
theorem lit_want {w : World} {H E : Nat} {fr : Nat × Nat} {y : Int} {z : Bool} (h : w.heap[H]? = some (.cells #[.int .i64 y, .bool z] E fr)) : Row 2 (fun x : Int × Bool => [.int .i64 x.1, .bool x.2]) w (.slice (some ⟨H, 0, none⟩) 1 1) [(y, z)] := by
  refine ⟨_, _, rfl, Nat.le_refl _, by decide, (fun e => by cases e), fun _ => ⟨H, 0, rfl, heap_lt h, fun i x hx j u hu => ?_⟩⟩
  match i, hx with
  | i + 1, hx => simp at hx
  | 0, hx =>
    simp only [List.getElem?_cons_zero, Option.some.injEq] at hx
    subst hx
    match j, hu with
    | 0, hu => simp only [List.getElem?_cons_zero, Option.some.injEq] at hu; subst hu; simp [World.cell?, h]
    | 1, hu => simp only [List.getElem?_cons_succ, List.getElem?_cons_zero, Option.some.injEq] at hu; subst hu; simp [World.cell?, h]
    | j + 2, hu => simp at hu
theorem lit_int {w : World} {H E : Nat} {fr : Nat × Nat} {y : Int} (h : w.heap[H]? = some (.cells #[.int .i64 y] E fr)) : IRow w (.slice (some ⟨H, 0, none⟩) 1 1) [y] := by
  refine ⟨_, _, rfl, Nat.le_refl _, by decide, (fun e => by cases e), fun _ => ⟨H, 0, rfl, heap_lt h, fun i x hx j u hu => ?_⟩⟩
  match i, hx with
  | i + 1, hx => simp at hx
  | 0, hx =>
    simp only [List.getElem?_cons_zero, Option.some.injEq] at hx
    subst hx
    match j, hu with
    | 0, hu => simp only [encI, List.getElem?_cons_zero, Option.some.injEq] at hu; subst hu; simp [World.cell?, h]
    | j + 1, hu => simp [encI] at hu
end Go.Proofs.YtbnfhnfnbhigoaaDoor
