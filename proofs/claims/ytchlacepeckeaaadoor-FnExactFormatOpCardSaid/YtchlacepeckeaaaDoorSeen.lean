/- A set of integers kept as a map to true that the call itself has made: what a look-up and a store do. -/
import Derived.Test.YtchlacepeckeaaaDoorBase
import Derived.MapKept
import Derived.Carry
namespace Go.Proofs.YtchlacepeckeaaaDoor
open Go.RowKit
set_option linter.unusedSimpArgs false
set_option linter.unusedVariables false

/-- The map's block behind the stores of the (different) numbers l, in this order. -/
def seenFrom : Nat → List Int → List MapEntry
  | _, [] => []
  | n, x :: r => { key := .int .i64 x, val := .bool true, born := n } :: seenFrom (n + 1) r
def seenObj (l : List Int) : Obj := .map (seenFrom 0 l).toArray l.length

theorem seenFrom_snoc (x : Int) : ∀ (l : List Int) (n : Nat), seenFrom n (l ++ [x]) = seenFrom n l ++ [{ key := .int .i64 x, val := .bool true, born := n + l.length }]
  | [], n => rfl
  | y :: r, n => by simp [seenFrom, seenFrom_snoc x r (n + 1), Nat.add_assoc, Nat.add_comm 1]

theorem findNow_seen (x : Int) : ∀ (l : List Int) (n i : Nat), (x ∈ l → ∃ j, Instr.findNow (.int .i64) (.int .i64 x) (seenFrom n l) i = some (some (j, .bool true))) ∧
    (x ∉ l → Instr.findNow (.int .i64) (.int .i64 x) (seenFrom n l) i = some none)
  | [], n, i => by simp [seenFrom, Instr.findNow]
  | y :: r, n, i => by
    have ih := findNow_seen x r (n + 1) (i + 1)
    by_cases h : x = y
    · subst h
      simp [seenFrom, Instr.findNow, Instr.sameNow]
    · simp only [seenFrom, Instr.findNow, Instr.sameNow, if_true, List.mem_cons, h, false_or]
      have hb : (x == y) = false := by simp [h]
      simp only [hb]
      exact ih

section
variable {P : Program} {T K E : TypeId} {w : World} {b : Nat} {l : List Int}

theorem run_seen (ht : P.underlying T = some (.map K E)) (hk : P.underlying K = some (.int .i64)) (hz : ∀ w, (zeroValue E).run P w = .ok (.bool false) w)
    (hb : w.heap[b]? = some (seenObj l)) (x : Int) :
    (Instr.lookup T (.map (some b)) (.int .i64 x) false).run P w = .ok (.bool (decide (x ∈ l))) w := by
  have hget : (getObj b).run P w = .ok (.map (seenFrom 0 l).toArray l.length) w := MapKept.run_getObj_map hb
  have hck := MapKept.run_checkKey (w := w) (k := .int .i64 x) hk rfl (seenFrom 0 l).toArray.isEmpty 9999
  by_cases h : x ∈ l
  · obtain ⟨j, hj⟩ := (findNow_seen x l 0 0).1 h
    have hf : (Instr.findKey K (.int .i64 x) (seenFrom 0 l)).run P w = .ok (some (j, .bool true)) w := MapKept.run_findKey hk hj
    simp only [List.isEmpty_toArray] at hck
    simp [Instr.lookup, run_underlying ht, hget, hck, hf, Result.andThen, h]
  · have hj := (findNow_seen x l 0 0).2 h
    have hf : (Instr.findKey K (.int .i64 x) (seenFrom 0 l)).run P w = .ok none w := MapKept.run_findKey hk hj
    simp only [List.isEmpty_toArray] at hck
    simp [Instr.lookup, run_underlying ht, hget, hck, hf, Result.andThen, h, hz w]

theorem run_see (ht : P.underlying T = some (.map K E)) (hk : P.underlying K = some (.int .i64))
    (hb : w.heap[b]? = some (seenObj l)) (x : Int) (hx : x ∉ l) :
    (Instr.mapUpdate T (.map (some b)) (.int .i64 x) (.bool true)).run P w = .ok () { w with heap := w.heap.setIfInBounds b (seenObj (l ++ [x])) } := by
  have hget : (getObj b).run P w = .ok (.map (seenFrom 0 l).toArray l.length) w := MapKept.run_getObj_map hb
  have hck := MapKept.run_checkKey (w := w) (k := .int .i64 x) hk rfl false 9999
  have hj := (findNow_seen x l 0 0).2 hx
  have hf : (Instr.findKey K (.int .i64 x) (seenFrom 0 l)).run P w = .ok none w := MapKept.run_findKey hk hj
  have hset := MapKept.run_setObj_map (P := P) (w := w) (r := b) (es := (seenFrom 0 l).toArray) (clock := l.length) (seenObj (l ++ [x])) hb
  have he : seenObj (l ++ [x]) = .map ((seenFrom 0 l).toArray.push { key := .int .i64 x, val := .bool true, born := l.length }) (l.length + 1) := by
    simp [seenObj, seenFrom_snoc]
  rw [he] at hset ⊢
  simp [Instr.mapUpdate, run_underlying ht, hget, hck, hf, Result.andThen]
  simp only [List.push_toArray] at hset
  exact hset
end

/-- The world behind such a store. -/
def sawWorld (w : World) (b : Nat) (l : List Int) : World := { w with heap := w.heap.setIfInBounds b (seenObj l) }

theorem saw_at {w : World} {b : Nat} (l : List Int) (h : b < w.heap.size) : (sawWorld w b l).heap[b]? = some (seenObj l) := by
  simp [sawWorld, h]
theorem saw_below {B : Nat} {w0 w : World} {b : Nat} (l : List Int) (h : Below B w0 w) (hb : B ≤ b) : Below B w0 (sawWorld w b l) :=
  h.trans ⟨rfl, rfl, rfl, by simp [sawWorld], fun k hk => by simp only [sawWorld]; rw [Array.getElem?_setIfInBounds]; rw [if_neg (by omega)]⟩
end Go.Proofs.YtchlacepeckeaaaDoor
