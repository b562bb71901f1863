/- append(own, src...) at a step of a region that draws its order. -/
import Derived.Test.YtbnfhnfnbhigoaaDoorDr
import Derived.Test.YtbnfhnfnbhigoaaDoorSpan
namespace Go.Proofs.YtbnfhnfnbhigoaaDoor
open Go.RowKit
set_option linter.unusedSimpArgs false
set_option linter.unusedVariables false
section
variable {P : Program} (w : World)
theorem run_pushAt {α : Type} {k : Nat} {enc : α → List Value} (hk : ∀ x, (enc x).length = k) (h1 : ∀ x, ∀ u ∈ enc x, u.oneCell' = true) (t ty e : TypeId) (z : Value) (bytes : Nat)
    (ht : P.underlying t = some (.slice e)) (hinfo : (P.info? e).map (fun i => (i.zero, i.size, i.bytes)) = some (some z, k, bytes)) (hzs : z.cells.size = k) (hsz : 0 < k)
    (base : Nat) (v : Value) (ys : List α) (hown : Own base e k enc w v ys) (hbase : base ≤ w.heap.size) (sv : Value) (xs : List α) (hrow : Row k enc w sv xs) (hpos : 0 < xs.length) (hb0 : 0 < bytes) (hbytes : (ys.length + xs.length) * bytes ≤ 140737488355328) :
    ∃ ad cap w', (Builtin.append_ #[t, t] ty #[v, sv]).run P w = .ok (.slice ad (ys.length + xs.length) cap) w' ∧ Own base e k enc w' (.slice ad (ys.length + xs.length) cap) (ys ++ xs) ∧ w.grownBy w' v.ownBlock ∧ ((Value.slice ad (ys.length + xs.length) cap).ownBlock = v.ownBlock ∨ (Value.slice ad (ys.length + xs.length) cap).ownBlock = some w.heap.size) := by
  obtain ⟨i, hi, hz, hsize, hby⟩ := info_parts hinfo
  have hn : ys.length + xs.length ≤ 140737488355328 := Nat.le_trans (Nat.le_mul_of_pos_right _ hb0) hbytes
  have hone : ∀ u ∈ xs.flatMap enc, u.oneCell' = true := fun u hu => by
    obtain ⟨y, _, hu⟩ := List.mem_flatMap.1 hu
    exact h1 y u hu
  obtain ⟨ad, c, rfl, hnone, hcells⟩ := hrow.src hk hsz
  cases ad with
  | none =>
    obtain ⟨rfl, hm⟩ := hnone rfl
    omega
  | some ad =>
    obtain ⟨v', w', hr, a, b, _, hat⟩ := run_append_own_at (P := P) w base t ty e i z k bytes ht hi hz hsize hby hzs hsz _ ys.length (ys.flatMap enc) hown ad xs.length c (xs.flatMap enc) (flat_length hk xs) (hcells ad rfl) hone (by unfold maxLen; omega) (by simpa using hbytes) (by omega)
    have ho : Own base e k enc w' v' (ys ++ xs) := by simpa [Own] using a
    obtain ⟨ad', cap, hv⟩ := ho.form
    rw [List.length_append] at hv
    subst hv
    exact ⟨ad', cap, w', hr, ho, b, hat⟩
theorem step_push {α : Type} {k : Nat} {enc : α → List Value} (hk : ∀ x, (enc x).length = k) (h1 : ∀ x, ∀ u ∈ enc x, u.oneCell' = true)
    {ops : Array Oper} {o : Oper} {a : Act} {K : Act → World → Prop} {Q : Exit → Act → World → Prop} {E : Prop} (hgd : o.guard = none) (s x : Operand) (t : TypeId)
    (ho : o.op = .call { callee := .builtin .append, args := #[s, x], argTypes := #[t, t] })
    (e : Nat) (z : Value) (bytes : Nat) (ht : P.underlying t = some (.slice e)) (hinfo : (P.info? e).map (fun i => (i.zero, i.size, i.bytes)) = some (some z, k, bytes)) (hzs : z.cells.size = k) (hsz : 0 < k)
    (base : Nat) (v : Value) (ys : List α) (hs : a.eval s = v) (hown : Own base e k enc w v ys) (hbase : base ≤ w.heap.size) (sv : Value) (xs : List α) (hx : a.eval x = sv) (hrow : Row k enc w sv xs) (hpos : 0 < xs.length) (hb0 : 0 < bytes) (hbytes : (ys.length + xs.length) * bytes ≤ 140737488355328)
    (h : ∀ ad cap w', Own base e k enc w' (.slice ad (ys.length + xs.length) cap) (ys ++ xs) → w.grownBy w' v.ownBlock → ((Value.slice ad (ys.length + xs.length) cap).ownBlock = v.ownBlock ∨ (Value.slice ad (ys.length + xs.length) cap).ownBlock = some w.heap.size) → K (a.put o.dst (.slice ad (ys.length + xs.length) cap)) w') :
    if Region.wanted o (yielded ops a.tmps) = true then Oper.wp P o a w K Q else E := by
  have hw : Region.wanted o (yielded ops a.tmps) = true := by simp [Region.wanted, hgd]
  rw [if_pos hw]
  obtain ⟨ad, cap, w', hr, h2, h3, h4⟩ := run_pushAt (P := P) w hk h1 t o.type e z bytes ht hinfo hzs hsz base v ys hown hbase sv xs hrow hpos hb0 hbytes
  unfold Oper.wp execOp
  simp only [ho, resolve, invoke, builtin, Sem.run_bind, Sem.run_pure, Result.andThen_ok, List.map_toArray, List.map_cons, List.map_nil, hs, hx, hr]
  exact h ad cap w' h2 h3 h4
end
end Go.Proofs.YtbnfhnfnbhigoaaDoor
