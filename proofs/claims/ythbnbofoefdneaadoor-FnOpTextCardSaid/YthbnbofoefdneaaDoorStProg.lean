/- The struct Prog: its plain twin, what reads as it, the exact laws' helpers on it (made by gen_prog.py). -/
import Derived.Test.YthbnbofoefdneaaDoorG1
import Derived.Test.YthbnbofoefdneaaDoorElOp
namespace Go.Proofs.YthbnbofoefdneaaDoor
open Go.RowKit
set_option linter.unusedSimpArgs false
set_option linter.unusedVariables false
structure ProgD where
  sems : List Int
  groups : List Int
  barriers : List Int
  rooms : List Int
  threads : List (List OpT)
  deriving DecidableEq
def ProgD.zero : ProgD := ⟨[], [], [], [], []⟩
/-- In w the value v reads as c. -/
def ProgRow (w : World) (v : Value) (c : ProgD) : Prop := ∃ a0 p0 a1 p1 a2 p2 a3 p3 a4 p4, v = .agg #[.slice a0 c.sems.length p0, .slice a1 c.groups.length p1, .slice a2 c.barriers.length p2, .slice a3 c.rooms.length p3, .slice a4 c.threads.length p4] ∧ IRow w (.slice a0 c.sems.length p0) c.sems ∧ IRow w (.slice a1 c.groups.length p1) c.groups ∧ IRow w (.slice a2 c.barriers.length p2) c.barriers ∧ IRow w (.slice a3 c.rooms.length p3) c.rooms ∧ TTRow w (.slice a4 c.threads.length p4) c.threads
theorem ProgRow.below {w w' : World} {v : Value} {c : ProgD} (h : ProgRow w v c) (hb : Below w.heap.size w w') : ProgRow w' v c := by
  obtain ⟨a0, p0, a1, p1, a2, p2, a3, p3, a4, p4, rfl, h0, h1, h2, h3, h4⟩ := h
  exact ⟨_, _, _, _, _, _, _, _, _, _, rfl, Row.below h0 hb, Row.below h1 hb, Row.below h2 hb, Row.below h3 hb, h4.below hb⟩
theorem TTOwn.kept {lo : Nat} {w w' : World} {v : Value} {ts : List (List OpT)} (h : TTOwn lo w v ts) (hb : Below w.heap.size w w') : TTOwn lo w' v ts := by
  obtain ⟨us, h1, h2⟩ := h; exact ⟨us, h1.kept hb, h2.kept hb⟩
/-- .. and its slices are the call's own: their blocks lie from lo on. -/
def ProgOwn (lo _hi : Nat) (w : World) (v : Value) (c : ProgD) : Prop := ∃ a0 p0 a1 p1 a2 p2 a3 p3 a4 p4, v = .agg #[.slice a0 c.sems.length p0, .slice a1 c.groups.length p1, .slice a2 c.barriers.length p2, .slice a3 c.rooms.length p3, .slice a4 c.threads.length p4] ∧ Own lo 3 1 encI w (.slice a0 c.sems.length p0) c.sems ∧ Own lo 3 1 encI w (.slice a1 c.groups.length p1) c.groups ∧ Own lo 3 1 encI w (.slice a2 c.barriers.length p2) c.barriers ∧ Own lo 3 1 encI w (.slice a3 c.rooms.length p3) c.rooms ∧ TTOwn lo w (.slice a4 c.threads.length p4) c.threads
theorem ProgOwn.row {lo hi : Nat} {w : World} {v : Value} {c : ProgD} (h : ProgOwn lo hi w v c) : ProgRow w v c := by
  obtain ⟨a0, p0, a1, p1, a2, p2, a3, p3, a4, p4, rfl, h0, h1, h2, h3, h4⟩ := h
  exact ⟨_, _, _, _, _, _, _, _, _, _, rfl, h0.row encI_len, h1.row encI_len, h2.row encI_len, h3.row encI_len, h4.row⟩
theorem ProgOwn.kept {lo hi : Nat} {w w' : World} {v : Value} {c : ProgD} (h : ProgOwn lo hi w v c) (hb : Below w.heap.size w w') : ProgOwn lo hi w' v c := by
  obtain ⟨a0, p0, a1, p1, a2, p2, a3, p3, a4, p4, rfl, h0, h1, h2, h3, h4⟩ := h
  exact ⟨_, _, _, _, _, _, _, _, _, _, rfl, h0.kept hb, h1.kept hb, h2.kept hb, h3.kept hb, h4.kept hb⟩
theorem ProgOwn.mono {lo hi lo' hi' : Nat} {w : World} {v : Value} {c : ProgD} (h : ProgOwn lo hi w v c) (hl : lo' ≤ lo) (_hh : hi ≤ hi') : ProgOwn lo' hi' w v c := by
  obtain ⟨a0, p0, a1, p1, a2, p2, a3, p3, a4, p4, rfl, h0, h1, h2, h3, h4⟩ := h
  exact ⟨_, _, _, _, _, _, _, _, _, _, rfl, h0.mono hl, h1.mono hl, h2.mono hl, h3.mono hl, h4.mono hl⟩
theorem ProgOwn.alloc {lo hi : Nat} {w : World} {v : Value} {c : ProgD} (h : ProgOwn lo hi w v c) (o : Obj) : ProgOwn lo hi (w.alloc o) v c := h.kept ((Below.refl _ _).alloc (Nat.le_refl _) o)
theorem ProgOwn.drew {lo hi : Nat} {w : World} {v : Value} {c : ProgD} (h : ProgOwn lo hi w v c) : ProgOwn lo hi w.drew v c := h
end Go.Proofs.YthbnbofoefdneaaDoor
