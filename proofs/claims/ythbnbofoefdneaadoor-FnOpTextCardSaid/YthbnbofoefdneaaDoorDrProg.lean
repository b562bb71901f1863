/- Owned slices of slices, owned programs: behind a store to a box, an append to a slice of another type, a step of the reader. -/
import Derived.Test.YthbnbofoefdneaaDoorProgPlain
import Derived.Test.YthbnbofoefdneaaDoorG1
namespace Go.Proofs.YthbnbofoefdneaaDoor
open Go.RowKit
set_option linter.unusedSimpArgs false
set_option linter.unusedVariables false
theorem InnerOwn.map {lo : Nat} {w w' : World} {us : List SV} {ts : List (List OpT)} (h : InnerOwn lo w us ts) (f : ∀ (v : Value) (t : List OpT), Own lo 23 3 encT w v t → Own lo 23 3 encT w' v t) : InnerOwn lo w' us ts :=
  ⟨h.1, fun i u t hu ht => ⟨(h.2 i u t hu ht).1, f _ _ (h.2 i u t hu ht).2⟩⟩
theorem TTOwn.map {lo : Nat} {w w' : World} {v : Value} {ts : List (List OpT)} (h : TTOwn lo w v ts) (f : ∀ (v : Value) (t : List OpT), Own lo 23 3 encT w v t → Own lo 23 3 encT w' v t) (g : ∀ (v : Value) (t : List SV), Own lo 74 1 encS w v t → Own lo 74 1 encS w' v t) : TTOwn lo w' v ts := by
  obtain ⟨us, h1, h2⟩ := h; exact ⟨us, g _ _ h1, h2.map f⟩
theorem TTOwn.alloc {lo : Nat} {w : World} {v : Value} {ts : List (List OpT)} (h : TTOwn lo w v ts) (o : Obj) : TTOwn lo (w.alloc o) v ts := h.map (fun _ _ h => h.alloc o) (fun _ _ h => h.alloc o)
theorem TTOwn.drew {lo : Nat} {w : World} {v : Value} {ts : List (List OpT)} (h : TTOwn lo w v ts) : TTOwn lo w.drew v ts := h
theorem TTOwn.setB {lo : Nat} {w : World} {v : Value} {ts : List (List OpT)} (h : TTOwn lo w v ts) (b j : Nat) {cs : Array Value} {T : TypeId} {fr : Nat × Nat} (hx : w.heap[b]? = some (.cells cs T fr)) (hT : T ≠ 23 ∧ T ≠ 74) (u : Value) : TTOwn lo (w.setCell ⟨b, j, none⟩ u) v ts :=
  h.map (fun _ _ h => h.setB b j hx hT.1 u) (fun _ _ h => h.setB b j hx hT.2 u)
theorem TTOwn.past {lo b : Nat} {w w' : World} {v : Value} {ts : List (List OpT)} (h : TTOwn lo w v ts) (hg : w.grownBy w' (some b)) (hb : b < lo) : TTOwn lo w' v ts := h.map (fun _ _ h => h.past hg hb) (fun _ _ h => h.past hg hb)
theorem TTOwn.grownT {α : Type} {base E k lo : Nat} {enc : α → List Value} {ys : List α} {w w' : World} {v u : Value} {ts : List (List OpT)} (h : TTOwn lo w v ts) (hu : Own base E k enc w u ys) (hg : w.grownBy w' u.ownBlock) (hT : E ≠ 23 ∧ E ≠ 74) : TTOwn lo w' v ts :=
  h.map (fun _ _ h => h.apart hg (Own.apart_types hu h hT.1)) (fun _ _ h => h.apart hg (Own.apart_types hu h hT.2))
theorem TTOwn.boxW {lo B : Nat} {T : TypeId} {w w' : World} {v : Value} {ts : List (List OpT)} (h : TTOwn lo w v ts) (hb : BoxW B T w w') (hT : T ≠ 23 ∧ T ≠ 74) : TTOwn lo w' v ts := h.map (fun _ _ h => h.boxW hb hT.1) (fun _ _ h => h.boxW hb hT.2)
theorem TTOwn.empty {lo : Nat} {w : World} {v : Value} (h : Own lo 74 1 encS w v []) : TTOwn lo w v [] := ⟨[], h, InnerOwn.nil⟩
/-- One slice more, behind an append. -/
theorem TTOwn.more {lo : Nat} {w w1 w' : World} {a ad at' : Option Addr} {p cp pt : Nat} {us : List SV} {ts z : List (List OpT)} {ys : List OpT} (hin : InnerOwn lo w us ts) (hu : Own lo 74 1 encS w (.slice a us.length p) us) (hys : Own lo 23 3 encT w' (.slice at' ys.length pt) ys)
    (hb : Below w.heap.size w w1) (hg : w1.grownBy w' (Value.slice a us.length p).ownBlock) (hz : ts ++ [ys] = z) (hown : Own lo 74 1 encS w' (.slice ad z.length cp) (us ++ [(at', ys.length, pt)])) : TTOwn lo w' (.slice ad z.length cp) z := by
  refine ⟨_, hown, ?_⟩
  rw [← hz]
  refine InnerOwn.snoc (hin.map fun v t h => ?_) hys
  exact (h.kept hb).apart hg (Own.apart_types (hu.kept hb) (h.kept hb) (by decide))
theorem ProgOwn.make {lo hi : Nat} {w : World} {x0 x1 x2 x3 : List Int} {x4 : List (List OpT)} {v0 v1 v2 v3 v4 : Value} (h0 : Own lo 3 1 encI w v0 x0) (h1 : Own lo 3 1 encI w v1 x1) (h2 : Own lo 3 1 encI w v2 x2) (h3 : Own lo 3 1 encI w v3 x3) (h4 : TTOwn lo w v4 x4) : ProgOwn lo hi w (.agg #[v0, v1, v2, v3, v4]) ⟨x0, x1, x2, x3, x4⟩ := by
  obtain ⟨a0, p0, rfl⟩ := h0.form
  obtain ⟨a1, p1, rfl⟩ := h1.form
  obtain ⟨a2, p2, rfl⟩ := h2.form
  obtain ⟨a3, p3, rfl⟩ := h3.form
  obtain ⟨a4, p4, rfl⟩ := h4.form
  exact ⟨_, _, _, _, _, _, _, _, _, _, rfl, h0, h1, h2, h3, h4⟩
theorem ProgOwn.past {lo hi b : Nat} {w w' : World} {v : Value} {c : ProgD} (h : ProgOwn lo hi w v c) (hg : w.grownBy w' (some b)) (hb : b < lo) : ProgOwn lo hi w' v c := by
  obtain ⟨a0, p0, a1, p1, a2, p2, a3, p3, a4, p4, rfl, h0, h1, h2, h3, h4⟩ := h
  exact ⟨_, _, _, _, _, _, _, _, _, _, rfl, h0.past hg hb, h1.past hg hb, h2.past hg hb, h3.past hg hb, h4.past hg hb⟩
theorem ProgOwn.setB {lo hi : Nat} {w : World} {v : Value} {c : ProgD} (h : ProgOwn lo hi w v c) (b j : Nat) {cs : Array Value} {T : TypeId} {fr : Nat × Nat} (hx : w.heap[b]? = some (.cells cs T fr)) (hT : T ≠ 3 ∧ T ≠ 23 ∧ T ≠ 74) (u : Value) : ProgOwn lo hi (w.setCell ⟨b, j, none⟩ u) v c := by
  obtain ⟨a0, p0, a1, p1, a2, p2, a3, p3, a4, p4, rfl, h0, h1, h2, h3, h4⟩ := h
  exact ⟨_, _, _, _, _, _, _, _, _, _, rfl, h0.setB b j hx hT.1 u, h1.setB b j hx hT.1 u, h2.setB b j hx hT.1 u, h3.setB b j hx hT.1 u, h4.setB b j hx hT.2 u⟩
theorem ProgOwn.tight {lo hi : Nat} {w : World} {v : Value} {c : ProgD} (h : ProgOwn lo hi w v c) : ProgOwn lo w.heap.size w v c := h
theorem ProgOwn.boxW {lo hi B : Nat} {T : TypeId} {w w' : World} {v : Value} {c : ProgD} (h : ProgOwn lo hi w v c) (hb : BoxW B T w w') (hT : T ≠ 3 ∧ T ≠ 23 ∧ T ≠ 74) : ProgOwn lo hi w' v c := by
  obtain ⟨a0, p0, a1, p1, a2, p2, a3, p3, a4, p4, rfl, h0, h1, h2, h3, h4⟩ := h
  exact ⟨_, _, _, _, _, _, _, _, _, _, rfl, h0.boxW hb hT.1, h1.boxW hb hT.1, h2.boxW hb hT.1, h3.boxW hb hT.1, h4.boxW hb hT.2⟩
/-- The lists are short. -/
def ProgFew (M : Nat) (c : ProgD) : Prop := c.sems.length ≤ M ∧ c.groups.length ≤ M ∧ c.barriers.length ≤ M ∧ c.rooms.length ≤ M ∧ c.threads.length ≤ M ∧ ∀ t ∈ c.threads, t.length ≤ M
theorem ProgFew.mono {M M' : Nat} {c : ProgD} (h : ProgFew M c) (hM : M ≤ M') : ProgFew M' c := by
  obtain ⟨h1, h2, h3, h4, h5, h6⟩ := h
  exact ⟨by omega, by omega, by omega, by omega, by omega, fun t ht => Nat.le_trans (h6 t ht) hM⟩
theorem ProgOk.few {c : ProgD} (h : ProgOk c) : ProgFew 8 c := by
  obtain ⟨h1, h2, h3, h4, h5, h6, h7⟩ := h
  have := h1.1; have := h2.1; have := h3.1; have := h4.1
  exact ⟨by omega, by omega, by omega, by omega, by omega, fun t ht => (h7 t ht).1⟩
theorem ProgFew.zero {M : Nat} : ProgFew M ProgD.zero := ⟨Nat.zero_le _, Nat.zero_le _, Nat.zero_le _, Nat.zero_le _, Nat.zero_le _, fun t ht => by cases ht⟩
/-- As many things as a program may have, and few permits. -/
def ProgLow (c : ProgD) : Prop := c.sems.length ≤ 3 ∧ c.groups.length ≤ 3 ∧ c.barriers.length ≤ 3 ∧ c.rooms.length ≤ 3 ∧ ∀ x ∈ c.sems, x ≤ 9
theorem ProgOk.low {c : ProgD} (h : ProgOk c) : ProgLow c := ⟨h.1.1, h.2.1.1, h.2.2.1.1, h.2.2.2.1.1, fun x hx => (h.1.2 x hx).2⟩
theorem ProgLow.zero : ProgLow ProgD.zero := ⟨by decide, by decide, by decide, by decide, fun x hx => by cases hx⟩
end Go.Proofs.YthbnbofoefdneaaDoor
