/- What the listed package-level variables hold, as the walks want it: the table of words, the powers of ten; strconv.Itoa for every int. -/
import Derived.Test.YthbnbofoefdneaaDoorOpText
import Derived.Test.YthbnbofoefdneaaDoorShelf
import Derived.LaidMore
import Derived.LaidLaws
import Derived.OpenShut
import Derived.ChangeArms
import Derived.ChangeSame
import Derived.Deep.Strs
import Derived.KernelRfl
import Derived.Lib.AppendIntMem
namespace Go.Proofs.YthbnbofoefdneaaDoor
open Go.RowKit
set_option linter.unusedSimpArgs false
set_option linter.unusedVariables false
open Go.ChangeShapes
def tabW : List (List UInt8 × Bool × Bool) := [([], false, false), ([115, 97, 121], false, true), ([97, 99, 113, 117, 105, 114, 101], true, true), ([114, 101, 108, 101, 97, 115, 101], true, true), ([111, 110, 99, 101], true, true), ([97, 100, 100], true, true), ([119, 97, 105, 116], true, false), ([97, 114, 114, 105, 118, 101], true, false), ([115, 101, 110, 100], true, true), ([103, 101, 116], true, false), ([99, 108, 111, 115, 101], true, false)]
def tabD : List (DataW Unit) := tabW.map fun x => .agg [.lit (.string x.1), .lit (.bool x.2.1), .lit (.bool x.2.2)]
/-- The table of words lies where the variable says. -/
def WordsAt (w : World) : Prop := ∃ b off c, w.cell? ⟨0, 0, none⟩ = some (.slice (some ⟨b, off, none⟩) 11 c) ∧ 11 ≤ c ∧ c ≤ 9223372036854775807 ∧ 0 < w.heap.size ∧ b < w.heap.size ∧
  ∀ i x, tabW[i]? = some x → w.cell? ⟨b, off + i * 3, none⟩ = some (.string ⟨x.1.toArray⟩) ∧ w.cell? ⟨b, off + i * 3 + 1, none⟩ = some (.bool x.2.1) ∧ w.cell? ⟨b, off + i * 3 + 2, none⟩ = some (.bool x.2.2)
theorem WordsAt.below {w w' : World} (h : WordsAt w) (hb : Below w.heap.size w w') : WordsAt w' := by
  obtain ⟨b, off, c, h1, h2, h3, h4, h5, h6⟩ := h
  exact ⟨b, off, c, (hb.cell (p := ⟨_, 0, none⟩) h4).trans h1, h2, h3, Nat.lt_of_lt_of_le h4 hb.size, Nat.lt_of_lt_of_le h5 hb.size, fun i x hx => ⟨(hb.cell (p := ⟨b, _, none⟩) h5).trans (h6 i x hx).1, (hb.cell (p := ⟨b, _, none⟩) h5).trans (h6 i x hx).2.1, (hb.cell (p := ⟨b, _, none⟩) h5).trans (h6 i x hx).2.2⟩⟩
def PowAt (w : World) : Prop := Lib.TabIs Tryd.prog w "internal/strconv.uint64pow10" .u64 Lib.pow10Tab
theorem PowAt.below {w w' : World} (h : PowAt w) (hb : Below w.heap.size w w') : PowAt w' := Lib.tabBelow_of_tabIs h w' hb
def LaidW (w : World) : Prop := PowAt w ∧ WordsAt w
theorem LaidW.below {w w' : World} (h : LaidW w) (hb : Below w.heap.size w w') : LaidW w' := ⟨h.1.below hb, h.2.below hb⟩
/-- strconv.Itoa, for every int. -/
theorem ItoaI_calls (n : Int) (w : World) (hL : PowAt w) (h : InB n) :
    Calls Tryd.prog 21 #[.int .i64 n] w fun e w' => e = .returned (.string (itoaB n)) ∧ Below w.heap.size w w' := by
  have key := Tryd.strconv_Itoa n h.1 h.2 w hL
  refine key.mono ?_
  rintro e w' ⟨rfl, k, os, rfl⟩
  exact ⟨rfl, Lib.below_grow _ _ (Nat.le_refl _) _ _⟩
theorem tab_word {k : Nat} {x : List UInt8 × Bool × Bool} (h : tabW[k]? = some x) : (⟨x.1.toArray⟩ : ByteArray) = wordB (k : Int) ∧ (1 ≤ k → x.2.1 = decide (argsN (k : Int) ≠ 0) ∧ x.2.2 = decide (argsN (k : Int) ≠ 1)) := by
  have hk : k < 11 := by
    rcases Nat.lt_or_ge k 11 with h' | h'
    · exact h'
    · rw [List.getElem?_eq_none (by simpa [tabW] using h')] at h; cases h
  match k, hk with
  | 0, _ => cases h; exact ⟨rfl, fun h => by omega⟩
  | 1, _ => cases h; exact ⟨rfl, fun _ => ⟨rfl, rfl⟩⟩
  | 2, _ => cases h; exact ⟨rfl, fun _ => ⟨rfl, rfl⟩⟩
  | 3, _ => cases h; exact ⟨rfl, fun _ => ⟨rfl, rfl⟩⟩
  | 4, _ => cases h; exact ⟨rfl, fun _ => ⟨rfl, rfl⟩⟩
  | 5, _ => cases h; exact ⟨rfl, fun _ => ⟨rfl, rfl⟩⟩
  | 6, _ => cases h; exact ⟨rfl, fun _ => ⟨rfl, rfl⟩⟩
  | 7, _ => cases h; exact ⟨rfl, fun _ => ⟨rfl, rfl⟩⟩
  | 8, _ => cases h; exact ⟨rfl, fun _ => ⟨rfl, rfl⟩⟩
  | 9, _ => cases h; exact ⟨rfl, fun _ => ⟨rfl, rfl⟩⟩
  | 10, _ => cases h; exact ⟨rfl, fun _ => ⟨rfl, rfl⟩⟩
theorem tab_ex {k : Nat} (h : k < 11) : ∃ x, tabW[k]? = some x := ⟨_, List.getElem?_eq_getElem (by simpa [tabW] using h)⟩
section
variable {P : Program} {w : World}
theorem words_of_trod {t e i0 i1 : TypeId} {f0 f1 f2 : Field} {fuel : Nat} {cs : List Value} {p : List MemPlace} (ht : P.underlying t = some (.slice e)) (he : P.underlying e = some (.struct #[f0, f1, f2])) (ce : P.cellsOf e = 3) (o0 : f0.offset = 0) (o1 : f1.offset = 1) (o2 : f2.offset = 2)
    (c0 : P.cellsOf i0 = 1) (c1 : P.cellsOf i1 = 1) (t0 : f0.type = i0) (t1 : f1.type = i1) (t2 : f2.type = i1) (h0 : P.underlying i0 = some .string) (h1 : P.underlying i1 = some .bool)
    (h : DataW.trod (fun _ => ()) P w 0 (fun _ => true) false fuel t cs = some (.slice tabD [], p)) :
    ∃ (b off c : Nat), cs = [.slice (some ⟨b, off, none⟩) 11 c] ∧ 11 ≤ c ∧ c ≤ 9223372036854775807 ∧ b < w.heap.size ∧
      ∀ i x, tabW[i]? = some x → w.cell? ⟨b, off + i * 3, none⟩ = some (.string ⟨x.1.toArray⟩) ∧ w.cell? ⟨b, off + i * 3 + 1, none⟩ = some (.bool x.2.1) ∧ w.cell? ⟨b, off + i * 3 + 2, none⟩ = some (.bool x.2.2) := by
  rcases DataW.trod_slice ht h with ⟨_, hx⟩ | ⟨a, len, cap, elems, rest, n, _, hcs, hx, _, hl, hm, hlen, hel, _⟩
  · simp at hx
  · simp only [Prod.mk.injEq, DataW.slice.injEq] at hx
    obtain ⟨⟨hD, _⟩, _⟩ := hx
    have el : len = 11 := by
      have := congrArg List.length hD
      simp [tabD, tabW] at this
      omega
    have each : ∀ i x, tabW[i]? = some x → w.cell? (a.add (i * 3)) = some (.string ⟨x.1.toArray⟩) ∧ w.cell? (a.add (i * 3 + 1)) = some (.bool x.2.1) ∧ w.cell? (a.add (i * 3 + 2)) = some (.bool x.2.2) := by
      intro i x hx
      have hi : i < len := by
        rcases Nat.lt_or_ge i 11 with h' | h'
        · omega
        · rw [List.getElem?_eq_none (by simpa [tabW] using h')] at hx; cases hx
      have hE := hel i hi
      rw [ce] at hE
      have hDi : (elems.map (·.1))[i]? = some (.agg [.lit (.string x.1), .lit (.bool x.2.1), .lit (.bool x.2.2)]) := by
        rw [← hD, tabD, List.getElem?_map, hx]; rfl
      rw [List.getElem?_map] at hDi
      cases hy : elems[i]? with
      | none => simp [hy] at hDi
      | some y =>
        rw [hy] at hE hDi
        simp only [Option.map_some, Option.some.injEq] at hDi
        simp only [Option.bind_eq_some_iff] at hE
        obtain ⟨cs', hc1, hy1⟩ := hE
        obtain ⟨_, hlen', hcell⟩ := World.cells?_some hc1
        obtain ⟨y0, y1, y2, m, hyy, _, j0, j1, j2⟩ := Go.Deep.trod_struct3 he hy1
        match cs', hlen' with
        | [v0, v1, v2], _ =>
          rw [t0] at j0
          rw [t1] at j1
          rw [t2] at j2
          simp [o0, o1, o2, c0, c1] at j0 j1 j2
          obtain ⟨s, hs, hs2, _⟩ := DataW.trod_string h0 j0
          obtain ⟨b1, hb1, hb1'⟩ := DataW.trod_bool h1 j1
          obtain ⟨b2, hb2, hb2'⟩ := DataW.trod_bool h1 j2
          have e0 := hcell 0 (by simp)
          have e1 := hcell 1 (by simp)
          have e2 := hcell 2 (by simp)
          rw [Go.Deep.add_add] at e0 e1 e2
          simp only [List.cons.injEq, and_true] at hs hb1 hb2
          subst hs hb1 hb2
          rw [hyy, hs2, hb1', hb2'] at hDi
          simp only [DataW.agg.injEq, List.cons.injEq, DataW.lit.injEq, Lit.string.injEq, Lit.bool.injEq, and_true] at hDi
          obtain ⟨q0, q1, q2⟩ := hDi
          have q0' : s = ⟨x.1.toArray⟩ := ba_ext (by rw [q0])
          rw [← q0', ← q1, ← q2]
          exact ⟨by simpa using e0, by simpa using e1, by simpa using e2⟩
    obtain ⟨b, o, sp⟩ := a
    have h00 := (each 0 _ rfl).1
    have hs : sp = none := by simpa [Addr.add] using World.cell?_spot h00
    subst hs
    have hlt : b < w.heap.size := by
      have := World.block_lt_of_cell? w _ h00
      simpa [Addr.add] using this
    subst el
    refine ⟨b, o, cap, hcs, hl, by unfold maxLen at hm; omega, hlt, fun i x hx => ?_⟩
    have := each i x hx
    rw [Addr.add_lit, Addr.add_lit, Addr.add_lit] at this
    simpa [Nat.add_assoc] using this
end
theorem laid_any {w : World} {n : String} {d : DataW Unit} : ∀ {L : List (String × DataW Unit)} {ps : List MemPlace}, DataW.LaidVars Tryd.prog w L ps → (n, d) ∈ L →
    ∃ g t cs fuel p, Tryd.prog.globalNamed n = some g ∧ (Tryd.prog.globals[g]?).map (·.type) = some t ∧ w.var? Tryd.prog n = some cs ∧ DataW.trod (fun _ => ()) Tryd.prog w 0 (fun _ => true) false fuel t cs.toList = some (d, p)
  | [], _, _, h => by cases h
  | (m, e) :: r, ps, ⟨g, t, cs, fuel, p, q, h1, h2, h3, h4, h5, _⟩, h => by
    rcases List.mem_cons.1 h with h | h
    · cases h; exact ⟨g, t, cs, fuel, p, h1, h2, h3, h4⟩
    · exact laid_any (L := r) h5 h
theorem gWords : Tryd.prog.globalNamed "loop.example/waitkit/impl.opWords" = some 0 := by kernel_rfl
theorem gPow : Tryd.prog.globalNamed "internal/strconv.uint64pow10" = some 4 := by kernel_rfl
theorem tWords : (Tryd.prog.globals[0]?).map (·.type) = some 47 := by kernel_rfl
theorem tPow : (Tryd.prog.globals[4]?).map (·.type) = some 112 := by kernel_rfl
/-- What a row's condition gives. -/
theorem laid_of {L : List (String × DataW Unit)} {W : World} (h : laidMet Tryd.prog L W) (h1 : ("loop.example/waitkit/impl.opWords", .slice tabD []) ∈ L) (h2 : ("internal/strconv.uint64pow10", Lib.tabData .u64 Lib.pow10Tab) ∈ L) : LaidW W := by
  obtain ⟨ps, hv, _⟩ := h
  constructor
  · obtain ⟨g, t, cs, fuel, p, e1, e2, e3, e4⟩ := laid_any (L := L) hv h2
    obtain rfl := Option.some.inj (gPow.symm.trans e1)
    obtain rfl := Option.some.inj (tPow.symm.trans e2)
    unfold PowAt Lib.TabIs
    rw [e3, ← Lib.cells_of_tab Tryd.underlying112 Tryd.underlying97 (by kernel_rfl) (by kernel_rfl) e4]
  · obtain ⟨g, t, cs, fuel, p, e1, e2, e3, e4⟩ := laid_any (L := L) hv h1
    obtain rfl := Option.some.inj (gWords.symm.trans e1)
    obtain rfl := Option.some.inj (tWords.symm.trans e2)
    obtain ⟨b, off, c, k1, k2, k3, k4, k5⟩ := words_of_trod Tryd.underlying47 Tryd.underlying48 (by kernel_rfl) rfl rfl rfl (i0 := 9) (i1 := 4) (by kernel_rfl) (by kernel_rfl) rfl rfl rfl Tryd.underlying9 Tryd.underlying4 e4
    have hcell := World.var?_cell e1 e3 0
    have hc0 : cs[0]? = some (.slice (some ⟨b, off, none⟩) 11 c) := by
      have : cs.toList[0]? = some (.slice (some ⟨b, off, none⟩) 11 c) := by rw [k1]; rfl
      simpa using this
    rw [hc0] at hcell
    exact ⟨b, off, c, hcell, k2, k3, World.block_lt_of_cell? W _ hcell, k4, k5⟩
end Go.Proofs.YthbnbofoefdneaaDoor
