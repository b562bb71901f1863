/- Two contracts of strings.Builder, WriteString and String, at this program: proved once over any program, taken here by the numbers of this one. -/
import Derived.Shelf.Strings.Builder1
import Derived.Test.YtbnfhnfnbhigoaaDoorBase
namespace Go.Proofs.YtbnfhnfnbhigoaaDoor
open Go.RowKit
set_option linter.unusedSimpArgs false
set_option linter.unusedVariables false
open Go.Shelf
def laysB166_ren : Go.Shelf.Ren := ⟨fun | 166 => 25 | 240 => 44 | 276 => 54 | n => n, fun | 0 => 0 | 3 => 3 | 4 => 4 | 5 => 5 | 9 => 9 | 20 => 20 | 37 => 34 | 70 => 48 | 72 => 50 | 75 => 52 | 80 => 55 | 164 => 81 | n => n, fun n => n⟩
theorem laysB166 : Lays.n166 Tryd.prog laysB166_ren where
  mixed := by kernel_rfl
  f166 := Tryd.func25.trans (congrArg some (by kernel_rfl))
  f240 := Tryd.func44.trans (congrArg some (by kernel_rfl))
  f276 := Tryd.func54.trans (congrArg some (by kernel_rfl))
  t0 := Tryd.underlying0
  a0 := Tryd.isAgg0
  z0 := Tryd.sizeOf0
  v0 := Tryd.zeroValue0
  t3 := Tryd.underlying3
  a3 := Tryd.isAgg3
  z3 := Tryd.sizeOf3
  v3 := Tryd.zeroValue3
  t4 := Tryd.underlying4
  a4 := Tryd.isAgg4
  z4 := Tryd.sizeOf4
  v4 := Tryd.zeroValue4
  t9 := Tryd.underlying9
  a9 := Tryd.isAgg9
  z9 := Tryd.sizeOf9
  v9 := Tryd.zeroValue9
  t20 := Tryd.underlying20
  a20 := Tryd.isAgg20
  z20 := Tryd.sizeOf20
  v20 := Tryd.zeroValue20
  t37 := Tryd.underlying34
  a37 := Tryd.isAgg34
  z37 := Tryd.sizeOf34
  v37 := Tryd.zeroValue34
  t70 := Tryd.underlying48
  a70 := Tryd.isAgg48
  z70 := Tryd.sizeOf48
  v70 := Tryd.zeroValue48
  t72 := Tryd.underlying50
  a72 := Tryd.isAgg50
  z72 := Tryd.sizeOf50
  v72 := Tryd.zeroValue50
  t75 := Tryd.underlying52
  a75 := Tryd.isAgg52
  z75 := Tryd.sizeOf52
  v75 := Tryd.zeroValue52
  t164 := Tryd.underlying81
  a164 := Tryd.isAgg81
  z164 := Tryd.sizeOf81
  v164 := Tryd.zeroValue81
theorem extraB166 : Builder.Extra Tryd.prog laysB166_ren where
  sizeBuilder := by kernel_rfl
  liesBuilder := by kernel_rfl
  t5 := Tryd.underlying5
  a5 := Tryd.isAgg5
  z5 := Tryd.sizeOf5
  v5 := Tryd.zeroValue5
  infoByte := by kernel_rfl
  cellsByte := by kernel_rfl
  sizeByte := by kernel_rfl
  neB5 := by decide
def laysB169_ren : Go.Shelf.Ren := ⟨fun | 169 => 27 | n => n, fun | 0 => 0 | 3 => 3 | 5 => 5 | 9 => 9 | 37 => 34 | 70 => 48 | 72 => 50 | 127 => 69 | n => n, fun n => n⟩
theorem laysB169 : Lays.n169 Tryd.prog laysB169_ren where
  mixed := by kernel_rfl
  f169 := Tryd.func27.trans (congrArg some (by kernel_rfl))
  t0 := Tryd.underlying0
  a0 := Tryd.isAgg0
  z0 := Tryd.sizeOf0
  v0 := Tryd.zeroValue0
  t3 := Tryd.underlying3
  a3 := Tryd.isAgg3
  z3 := Tryd.sizeOf3
  v3 := Tryd.zeroValue3
  t9 := Tryd.underlying9
  a9 := Tryd.isAgg9
  z9 := Tryd.sizeOf9
  v9 := Tryd.zeroValue9
  t37 := Tryd.underlying34
  a37 := Tryd.isAgg34
  z37 := Tryd.sizeOf34
  v37 := Tryd.zeroValue34
  t70 := Tryd.underlying48
  a70 := Tryd.isAgg48
  z70 := Tryd.sizeOf48
  v70 := Tryd.zeroValue48
  t72 := Tryd.underlying50
  a72 := Tryd.isAgg50
  z72 := Tryd.sizeOf50
  v72 := Tryd.zeroValue50
  t127 := Tryd.underlying69
  a127 := Tryd.isAgg69
  z127 := Tryd.sizeOf69
  v127 := Tryd.zeroValue69
theorem extraB169 : Builder.Extra Tryd.prog laysB169_ren where
  sizeBuilder := by kernel_rfl
  liesBuilder := by kernel_rfl
  t5 := Tryd.underlying5
  a5 := Tryd.isAgg5
  z5 := Tryd.sizeOf5
  v5 := Tryd.zeroValue5
  infoByte := by kernel_rfl
  cellsByte := by kernel_rfl
  sizeByte := by kernel_rfl
  neB5 := by decide
theorem WriteString_calls (B b : Nat) (bs : List Value) (s : ByteArray) (w : World) (h : Lib.IsBuilder 50 5 B b bs w) (hlen : bs.length + s.size ≤ 140737488355328) (hBw : B ≤ w.heap.size) :
    Calls Tryd.prog 25 #[.pointer (some ⟨b, 0, none⟩), .string s] w fun e w' => e = .returned (.tuple #[.int .i64 s.size, .nilIface]) ∧ (Lib.BuilderAt 50 5 B b (.pointer (some ⟨b, 0, none⟩)) (bs ++ Lib.strCells s) w' ∧ Below B w w') :=
  Any.Builder_WriteString laysB166 extraB166 B b bs s w h hlen hBw
theorem BString_calls (B b : Nat) (l : List UInt8) (w : World) (h : Lib.IsBuilder 50 5 B b (Lib.byteCells l) w) (hBw : B ≤ w.heap.size) :
    Calls Tryd.prog 27 #[.pointer (some ⟨b, 0, none⟩)] w fun e w' => e = .returned (.string ⟨l.toArray⟩) ∧ Below B w w' :=
  Any.Builder_String_any laysB169 extraB169 B b l w h hBw
def Bld (b : Nat) (s : ByteArray) (w : World) : Prop := Lib.IsBuilder 50 5 b b (Lib.strCells s) w
theorem strCells_append (a b : ByteArray) : Lib.strCells (a ++ b) = Lib.strCells a ++ Lib.strCells b := by simp [Lib.strCells, ByteArray.data_append]
theorem emp_append (a : ByteArray) : (⟨#[]⟩ : ByteArray) ++ a = a := by apply ByteArray.ext; simp [ByteArray.data_append]
theorem Bld.lt {b : Nat} {s : ByteArray} {w : World} (h : Bld b s w) : b < w.heap.size := by rcases h with h | h <;> exact Lib.BuilderAt.lt h
theorem BuilderAt_kept {T e : TypeId} {B b : Nat} {p : Value} {bs : List Value} {w w' : World} (h : Lib.BuilderAt T e B b p bs w) (hb : Below w.heap.size w w') : Lib.BuilderAt T e B b p bs w' := by
  have hlt := h.lt
  obtain ⟨h1, v, h2, h3, h4⟩ := h
  refine ⟨h1, v, (hb.block b hlt).trans h2, ⟨h3.1, ?_⟩, h4⟩
  rcases h3.2 with h5 | ⟨g, cap, cur, hv, hg, hh, r⟩
  · exact .inl h5
  · exact .inr ⟨g, cap, cur, hv, hg, (hb.block g (Array.getElem?_eq_some_iff.1 hh).1).trans hh, r⟩
theorem Bld.kept {b : Nat} {s : ByteArray} {w w' : World} (h : Bld b s w) (hb : Below w.heap.size w w') : Bld b s w' := by
  rcases h with h | h
  · exact .inl (BuilderAt_kept h hb)
  · exact .inr (BuilderAt_kept h hb)
theorem Bld.fresh (w : World) : Bld w.heap.size ⟨#[]⟩ (w.alloc (.cells #[.pointer none, .slice none 0 0] 50)) := Lib.fresh_isBuilder _ _ w
theorem WriteB_calls (b : Nat) (s x : ByteArray) (w : World) (h : Bld b s w) (hs : s.size ≤ 1048576) (hx : x.size ≤ 1048576) :
    Calls Tryd.prog 25 #[.pointer (some ⟨b, 0, none⟩), .string x] w fun e w' => e = .returned (.tuple #[.int .i64 x.size, .nilIface]) ∧ Bld b (s ++ x) w' ∧ Below b w w' := by
  refine (WriteString_calls b b _ x w h (by rw [Lib.strCells_length]; omega) (Nat.le_of_lt h.lt)).mono ?_
  rintro e w' ⟨rfl, h1, h2⟩
  exact ⟨rfl, by rw [Bld, strCells_append]; exact .inr h1, h2⟩
theorem StringB_calls (b : Nat) (s : ByteArray) (w : World) (h : Bld b s w) :
    Calls Tryd.prog 27 #[.pointer (some ⟨b, 0, none⟩)] w fun e w' => e = .returned (.string s) ∧ Below b w w' := by
  refine (BString_calls b b s.data.toList w (by rw [← Lib.strCells_eq]; exact h) (Nat.le_of_lt h.lt)).mono ?_
  rintro e w' ⟨rfl, h2⟩
  exact ⟨rfl, h2⟩
end Go.Proofs.YtbnfhnfnbhigoaaDoor
