/- What the parse reads besides: strconv.ErrSyntax holds an interface value, bytealg.MaxLen an int; the library's calls, as the walks want them (made by gen_parsei.py). -/
import Derived.Test.YthbnbofoefdneaaDoorLaid
import Derived.Test.YthbnbofoefdneaaDoorNumIP
import Derived.Test.YthbnbofoefdneaaDoorSplitP
import Derived.Stop.LaidErr
import Derived.SizedLaws
import Derived.Lib.AtoiErrMem
namespace Go.Proofs.YthbnbofoefdneaaDoor
open Go.RowKit
set_option linter.unusedSimpArgs false
set_option linter.unusedVariables false
open Go.ChangeShapes
def SynAt (w : World) : Prop := 2 < w.heap.size ∧ ∃ ev, w.cell? ⟨2, 0, none⟩ = some ev ∧ (ev = .nilIface ∨ ∃ te pe, ev = .iface te pe)
def MaxAt (w : World) : Prop := 1 < w.heap.size ∧ ∃ m, w.cell? ⟨1, 0, none⟩ = some (.int .i64 m)
theorem SynAt.below {w w' : World} (h : SynAt w) (hb : Below w.heap.size w w') : SynAt w' := by
  obtain ⟨h1, ev, h2, h3⟩ := h
  exact ⟨Nat.lt_of_lt_of_le h1 hb.size, ev, (hb.cell (p := ⟨_, 0, none⟩) h1).trans h2, h3⟩
theorem MaxAt.below {w w' : World} (h : MaxAt w) (hb : Below w.heap.size w w') : MaxAt w' := by
  obtain ⟨h1, m, h2⟩ := h
  exact ⟨Nat.lt_of_lt_of_le h1 hb.size, m, (hb.cell (p := ⟨_, 0, none⟩) h1).trans h2⟩
def LaidP (w : World) : Prop := LaidW w ∧ SynAt w ∧ MaxAt w
theorem LaidP.below {w w' : World} (h : LaidP w) (hb : Below w.heap.size w w') : LaidP w' := ⟨h.1.below hb, h.2.1.below hb, h.2.2.below hb⟩
theorem trim_calls (s d : ByteArray) (w : World) (hd : d.data.toList = dgs s) :
    Calls Tryd.prog 35 #[.string s, .string ⟨#[45]⟩] w fun e w' => e = .returned (.string d) ∧ Below w.heap.size w w' := by
  refine (Tryd.strings_TrimPrefix s ⟨#[45]⟩ w).mono ?_
  rintro e w' ⟨rfl, rfl⟩
  refine ⟨?_, Below.refl _ _⟩
  have : (⟨(Lib.trimPrefix s.data.toList (⟨#[45]⟩ : ByteArray).data.toList).toArray⟩ : ByteArray) = d := ba_ext hd.symm
  rw [this]
theorem atoiOk_calls (s : ByteArray) (n : Int) (w : World) (hl : s.size ≤ 18) (h : Lib.atoi s.data.toList = some n) :
    Calls Tryd.prog 36 #[.string s] w fun e w' => e = .returned (.tuple #[.int .i64 n, .nilIface]) ∧ Below w.heap.size w w' := by
  refine (Tryd.strconv_Atoi s n hl h w).mono ?_
  rintro e w' ⟨rfl, t, rfl⟩
  exact ⟨rfl, Lib.bytesWorld_below _ _ _⟩
theorem atoiBad_calls (s : ByteArray) (w : World) (hl : s.size ≤ 18) (h : Lib.atoi s.data.toList = none) (hS : SynAt w) :
    Calls Tryd.prog 36 #[.string s] w fun e w' => ∃ t v, e = .returned (.tuple #[.int .i64 0, .iface t v]) ∧ Below w.heap.size w w' := by
  obtain ⟨_, ev, hv, hev⟩ := hS
  refine (Tryd.strconv_Atoi_err s hl h ev w hv hev).mono ?_
  rintro e w' ⟨N, rfl, _, _, hb⟩
  exact ⟨_, _, rfl, hb⟩
theorem split_calls (text : ByteArray) (ws : List ByteArray) (w : World) (ht : text.size ≤ 2000000) (hM : MaxAt w) (hws : cutB text 32 = ws) :
    Calls Tryd.prog 19 #[.string text, .string ⟨#[32]⟩] w fun e w' => ∃ zb, e = .returned (.slice (some ⟨zb, 0, none⟩) ws.length ws.length) ∧ w.heap.size ≤ zb ∧ Own w.heap.size 9 1 encZ w' (.slice (some ⟨zb, 0, none⟩) ws.length ws.length) ws ∧ Below w.heap.size w w' := by
  obtain ⟨_, m, hm⟩ := hM
  refine (Tryd.strings_Split text ⟨#[32]⟩ m w (by omega) hm (by decide)).mono ?_
  rintro e w' ⟨rfl, rfl⟩
  have hl := Lib.splitB_all ⟨#[32]⟩ (by decide) 0 _ text rfl
  have hw2 := (cutB_len text 32).2
  rw [split_cut, hws] at hl
  rw [hws] at hw2
  rw [split_cut, hws, ← hl]
  exact ⟨_, rfl, Nat.le_refl _, Own.shut (base := w.heap.size) (g := w.heap.size) (n := ws.length) (cap := ws.length) (cur := (ws.map Value.string).toArray) rfl (Nat.le_refl _) (by rw [flat_length encZ_len]) (heap_at _ _) (Nat.le_refl _) (by unfold maxLen; omega) (by simp) (by rw [Nat.mul_one, List.take_of_length_le (by simp), List.map_eq_flatMap]; rfl), (Below.refl _ _).alloc (Nat.le_refl _) _⟩
theorem starErr : "*" ++ "errors.errorString" = "*errors.errorString" := by decide
theorem rowErr (u : TypeId) (h : Tryd.prog.typeName? 3 u = some "*errors.errorString") : u = 124 :=
  typeName_ptr_named (nm := "errors.errorString") (by rw [starErr]; kernel_rfl) (by kernel_rfl) (by decide) u (by rw [starErr]; exact h)
/-- What a row's condition gives. -/
theorem syn_of {x0 x1 x2 x3 x4 : String × DataW Unit} {r : List (String × DataW Unit)} {text : List UInt8} {W : World} (h : laidMet Tryd.prog (x0 :: x1 :: x2 :: x3 :: x4 :: ("strconv.ErrSyntax", .iface "*errors.errorString" (.ptr (.agg [.lit (.string text)]))) :: r) W) : SynAt W := by
  have gS : Tryd.prog.globalNamed "strconv.ErrSyntax" = some 2 := by kernel_rfl
  obtain ⟨a, s, hv, _⟩ := laid_sentinel h.tail.tail.tail.tail.tail gS (ti := 65) (by kernel_rfl) Tryd.underlying65 (tp := 124) rowErr Tryd.underlying124 Tryd.underlying126 rfl rfl Tryd.underlying9 (by kernel_rfl) (by kernel_rfl)
  have hc := World.var?_cell gS hv 0
  exact ⟨World.block_lt_of_cell? W _ hc, _, by simpa using hc, .inr ⟨_, _, rfl⟩⟩
theorem max_of {W : World} (h : W.ShapedOpen Tryd.prog) : MaxAt W := by
  obtain ⟨m, hm⟩ := Tryd.laysM146.s1_3 W h
  have hm' : W.cell? ⟨1, 0, none⟩ = some (.int .i64 m) := hm
  exact ⟨World.block_lt_of_cell? W _ hm', m, hm'⟩
end Go.Proofs.YthbnbofoefdneaaDoor
