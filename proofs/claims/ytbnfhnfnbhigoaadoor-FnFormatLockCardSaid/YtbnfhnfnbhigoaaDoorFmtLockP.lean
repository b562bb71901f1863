/- The text of a lock, in plain terms. -/
import Derived.Test.YtbnfhnfnbhigoaaDoorFmtDig
namespace Go.Proofs.YtbnfhnfnbhigoaaDoor
open Go.RowKit
set_option linter.unusedSimpArgs false
set_option linter.unusedVariables false
theorem ret_str {a b : ByteArray} (h : a = b) : Ending.returned (.string a) = Ending.returned (.string b) := by rw [h]
theorem dig_size (t : Int) : (dig t).size = 1 := by unfold dig; repeat' split
                                                    all_goals rfl
def rStep (s : ByteArray) (r : Int) : ByteArray := s ++ ⟨#[114]⟩ ++ dig r
def signOf (b : Bool) : ByteArray := if b then ⟨#[32, 119]⟩ else ⟨#[32, 114]⟩
def qStep (s : ByteArray) (x : Int × Bool) : ByteArray := s ++ signOf x.2 ++ dig x.1
def rText (rs : List Int) : ByteArray := rs.foldl rStep ⟨#[]⟩
def qText (s : ByteArray) (q : List (Int × Bool)) : ByteArray := q.foldl qStep s
def headText (l : LockD) : ByteArray := if l.writer = -1 then (if l.readers.length = 0 then ⟨#[102, 114, 101, 101]⟩ else rText l.readers) else (⟨#[119]⟩ ++ dig l.writer)
def fmtL (l : LockD) : ByteArray := if lockB l then qText (headText l) l.q else ⟨#[]⟩
theorem signOf_size (b : Bool) : (signOf b).size = 2 := by cases b <;> rfl
theorem rStep_size (s : ByteArray) (r : Int) : (rStep s r).size = s.size + 2 := by simp [rStep, ByteArray.size_append, dig_size]; rfl
theorem qStep_size (s : ByteArray) (x : Int × Bool) : (qStep s x).size = s.size + 3 := by simp [qStep, ByteArray.size_append, dig_size, signOf_size]
theorem foldl_take_succ {α β : Type} (f : β → α → β) (b : β) (xs : List α) {k : Nat} {x : α} (h : xs[k]? = some x) : (xs.take (k + 1)).foldl f b = f ((xs.take k).foldl f b) x := by
  rw [List.take_add_one, h]; simp
theorem rText_succ {rs : List Int} {k : Nat} {r : Int} (h : rs[k]? = some r) : rText (rs.take (k + 1)) = rStep (rText (rs.take k)) r := foldl_take_succ _ _ _ h
theorem qText_succ (s : ByteArray) {q : List (Int × Bool)} {k : Nat} {x : Int × Bool} (h : q[k]? = some x) : qText s (q.take (k + 1)) = qStep (qText s (q.take k)) x := foldl_take_succ _ _ _ h
theorem foldl_size {α : Type} (f : ByteArray → α → ByteArray) (c : Nat) (hf : ∀ s x, (f s x).size = s.size + c) : ∀ (xs : List α) (s : ByteArray), (xs.foldl f s).size = s.size + c * xs.length
  | [], s => by simp
  | x :: xs, s => by rw [List.foldl_cons, foldl_size f c hf xs, hf, List.length_cons, Nat.mul_add]; omega
theorem rText_size (rs : List Int) : (rText rs).size = 2 * rs.length := by rw [rText, foldl_size _ 2 rStep_size]; simp [ByteArray.size]
theorem qText_size (s : ByteArray) (q : List (Int × Bool)) : (qText s q).size = s.size + 3 * q.length := foldl_size _ 3 qStep_size q s
theorem headText_size {l : LockD} (h : LockOk l) : (headText l).size ≤ 12 := by
  have := h.small
  unfold headText
  split
  · split
    · decide
    · rw [rText_size]; omega
  · simp [ByteArray.size_append, dig_size]; decide
/-- What stands behind k readers, where s0 stood ahead of the first. -/
def hText (s0 : ByteArray) (rs : List Int) (k : Nat) : ByteArray := if k = 0 then s0 else rText (rs.take k)
theorem hText_size (s0 : ByteArray) (rs : List Int) (k : Nat) (h0 : s0.size ≤ 12) (hr : rs.length ≤ 6) : (hText s0 rs k).size ≤ 12 := by
  unfold hText
  split
  · exact h0
  · rw [rText_size, List.length_take]; omega
theorem LockOk.thr_w {l : LockD} (h : LockOk l) (hw : l.writer ≠ -1) : Thr l.writer := h.2.2.1.1 _ (by simp [lockAll, wrL, hw])
theorem LockOk.thr_r {l : LockD} (h : LockOk l) {k : Nat} {r : Int} (hr : l.readers[k]? = some r) : Thr r := h.2.2.1.1 _ (by simp [lockAll, List.mem_of_getElem? hr])
theorem LockOk.thr_q {l : LockD} (h : LockOk l) {k : Nat} {x : Int × Bool} (hx : l.q[k]? = some x) : Thr x.1 := h.2.2.1.1 _ (by
  simp only [lockAll, List.mem_append]; exact .inr (List.mem_map_of_mem (List.mem_of_getElem? hx)))
end Go.Proofs.YtbnfhnfnbhigoaaDoor
