/- What the program's ParseOp finds is what the reference's finds, in plain terms. No program in sight. -/
import Derived.Test.YthbnbofoefdneaaDoorParP
import Derived.Test.YthbnbofoefdneaaDoorSplitP
import Derived.Test.YthbnbofoefdneaaDoorWordLaw
namespace Go.Proofs.YthbnbofoefdneaaDoor
open Go.RowKit
set_option linter.unusedSimpArgs false
set_option linter.unusedVariables false
theorem wordKd_inj {j k : Int} (hj : Kd j) (hk : Kd k) (h : wordB j = wordB k) : j = k := wordB_inj hj hk (by rw [h])
/-- The kinds before k have other words. -/
def KW (ws : List ByteArray) (k : Nat) : Prop := ∀ j : Int, 1 ≤ j → j < (k : Int) → ¬ ws[0]? = some (wordB j)
theorem KW.start (ws : List ByteArray) : KW ws 1 := fun j h1 h2 => by omega
theorem KW.step {ws : List ByteArray} {k : Nat} (h : KW ws k) (hn : ¬ ws[0]? = some (wordB (k : Int))) : KW ws (k + 1) := fun j h1 h2 => by
  by_cases e : j = (k : Int)
  · rw [e]; exact hn
  · exact h j h1 (by omega)
theorem KW.done {t : ByteArray} {ws : List ByteArray} {k : Nat} (h : KW ws k) (hk : 11 ≤ k) (hws : cutB t 32 = ws) : ParEnd t none := by
  rintro x ⟨hx, ns, _, _, h2⟩
  rw [hws] at h2
  exact h x.1 hx.1 (by have := hx.2; omega) h2.1
/-- What a text ends with whose word is kind k's and whose other pieces are ps. -/
def resP (k : Int) (ps : List ByteArray) : Option OpT := (numsL ps).bind (makeB k)
theorem makeB_len {k : Int} {ns : List Int} {x : OpT} (h : makeB k ns = some x) : (argsN k = 2 → ns.length = 2) ∧ (¬ argsN k = 2 → ns.length = 1) := by
  unfold makeB at h
  split at h
  · split at h
    · exact ⟨fun e => by omega, fun _ => rfl⟩
    · split at h
      · exact ⟨fun e => by omega, fun _ => rfl⟩
      · cases h
  · split at h
    · exact ⟨fun _ => rfl, fun e => by omega⟩
    · cases h
  · cases h
theorem resP_len1 {k : Int} {ps : List ByteArray} (ha : ¬ argsN k = 2) (h : ¬ ps.length = 1) : resP k ps = none := by
  unfold resP
  cases hn : numsL ps with
  | none => rfl
  | some ns =>
    simp only [Option.bind_some]
    cases hm : makeB k ns with
    | none => rfl
    | some x => have h1 := (makeB_len hm).2 ha; have h2 := numsL_len hn; omega
theorem resP_len2 {k : Int} {ps : List ByteArray} (ha : argsN k = 2) (h : ¬ ps.length = 2) : resP k ps = none := by
  unfold resP
  cases hn : numsL ps with
  | none => rfl
  | some ns =>
    simp only [Option.bind_some]
    cases hm : makeB k ns with
    | none => rfl
    | some x => have h1 := (makeB_len hm).1 ha; have h2 := numsL_len hn; omega
theorem resP_bad {k : Int} {ps : List ByteArray} {i : Nat} {p : ByteArray} (hp : ps[i]? = some p) (hn : numB p = none) : resP k ps = none := by
  unfold resP; rw [numsL_bad hp hn]; rfl
theorem one_piece {ps : List ByteArray} {p : ByteArray} (hl : ps.length = 1) (hp : ps[0]? = some p) : ps = [p] := by
  obtain ⟨x, rfl⟩ := List.length_eq_one_iff.1 hl
  simp at hp; rw [hp]
theorem two_pieces {ps : List ByteArray} {p q : ByteArray} (hl : ps.length = 2) (hp : ps[0]? = some p) (hq : ps[1]? = some q) : ps = [p, q] := by
  match ps, hl with
  | [x, y], _ => simp at hp hq; rw [hp, hq]
theorem resP_0 {k : Int} {ps : List ByteArray} {p : ByteArray} {n : Int} (ha : argsN k = 0) (hl : ps.length = 1) (hp : ps[0]? = some p) (hn : numB p = some n) : resP k ps = some (k, 0, n) := by
  rw [one_piece hl hp]
  simp [resP, numsL, hn, makeB, ha]
theorem resP_1 {k : Int} {ps : List ByteArray} {p : ByteArray} {n : Int} (ha : argsN k = 1) (hl : ps.length = 1) (hp : ps[0]? = some p) (hn : numB p = some n) : resP k ps = some (k, n, 0) := by
  rw [one_piece hl hp]
  simp [resP, numsL, hn, makeB, ha]
theorem resP_2 {k : Int} {ps : List ByteArray} {p q : ByteArray} {n m : Int} (ha : argsN k = 2) (hl : ps.length = 2) (hp : ps[0]? = some p) (hq : ps[1]? = some q) (hn : numB p = some n) (hm : numB q = some m) : resP k ps = some (k, n, m) := by
  rw [two_pieces hl hp hq]
  simp [resP, numsL, hn, hm, makeB, ha]
theorem numsL_text : ∀ {ps : List ByteArray} {ns : List Int}, numsL ps = some ns → ps = ns.map itoaB
  | [], ns, h => by simp only [numsL, Option.some.injEq] at h; subst h; rfl
  | p :: r, ns, h => by
    simp only [numsL] at h
    cases hp : numB p with
    | none => rw [hp] at h; cases h
    | some n =>
      rw [hp] at h
      simp only [Option.bind_some] at h
      cases hr : numsL r with
      | none => rw [hr] at h; cases h
      | some l =>
        rw [hr] at h
        simp only [Option.map_some, Option.some.injEq] at h
        subst h
        rw [List.map_cons, numB_some hp, ← numsL_text hr]
theorem makeB_text {k : Int} {ns : List Int} {x : OpT} (hk : Kd k) (h : makeB k ns = some x) : (opText x).data.toList = (wordB k).data.toList ++ (ns.map itoaB).flatMap (fun y => 32 :: y.data.toList) := by
  unfold makeB at h
  split at h
  · split at h
    · rename_i ha
      cases h
      rw [opText_0 hk ha, ba_append, ba_append]
      simp [spB]
    · split at h
      · rename_i ha
        cases h
        rw [opText_1 hk ha, ba_append, ba_append]
        simp [spB]
      · cases h
  · split at h
    · rename_i ha
      cases h
      rw [opText_2 hk ha, ba_append, ba_append, ba_append, ba_append]
      simp [spB]
    · cases h
  · cases h
theorem parEnd_hit {t x0 : ByteArray} {ws : List ByteArray} {k : Int} (hws : cutB t 32 = ws) (h0 : ws[0]? = some x0) (hk : Kd k) (hw : x0 = wordB k) : ParEnd t (resP k (ws.drop 1)) := by
  obtain ⟨ps, rfl⟩ : ∃ ps, ws = x0 :: ps := by
    cases ws with
    | nil => cases h0
    | cons a r => simp at h0; exact ⟨r, by rw [h0]⟩
  simp only [List.drop_succ_cons, List.drop_zero]
  cases hr : resP k ps with
  | none =>
    rintro x ⟨hx, ns, h1, h3, h2⟩
    rw [hws] at h1 h2
    have h4 := h2.1
    simp only [List.getElem?_cons_zero, Option.some.injEq] at h4
    have e : x.1 = k := wordKd_inj hx hk (by rw [← h4, hw])
    simp only [List.drop_succ_cons, List.drop_zero] at h1
    unfold resP at hr
    rw [h1] at hr
    have h5 := h2.2.1
    rw [e] at h5
    simp only [Option.bind_some] at hr
    rw [hr] at h5
    cases h5
  | some x =>
    unfold resP at hr
    cases hn : numsL ps with
    | none => rw [hn] at hr; cases hr
    | some ns =>
      rw [hn] at hr
      simp only [Option.bind_some] at hr
      have e := makeB_kind hr
      refine ⟨by rw [e]; exact hk, ns, by rw [hws]; exact hn, ?_, ?_⟩
      · rcases Classical.em (argsN k = 2) with ha | ha
        · have := (makeB_len hr).1 ha; omega
        · have := (makeB_len hr).2 ha; omega
      · rw [e]
        refine ⟨by rw [hws, hw]; rfl, hr, ?_⟩
        apply ba_ext
        rw [makeB_text hk hr, cut_join hws, hw, ← numsL_text hn]
/-- A text has one operation at the most. -/
theorem ParB.one {t : ByteArray} {x y : OpT} (hx : ParB t x) (hy : ParB t y) : x = y := by
  obtain ⟨k1, ns, a1, _, b1⟩ := hx
  obtain ⟨k2, ms, a2, _, b2⟩ := hy
  rw [a1] at a2
  cases a2
  have e : x.1 = y.1 := wordKd_inj k1 k2 (Option.some.inj (b1.1.symm.trans b2.1))
  have h1 := b1.2.1
  rw [e] at h1
  exact Option.some.inj (h1.symm.trans b2.2.1)
theorem ParEnd.one {t : ByteArray} {r s : Option OpT} (h : ParEnd t r) (h' : ParEnd t s) : r = s := by
  cases r with
  | none => cases s with
    | none => rfl
    | some y => exact absurd h' (h y)
  | some x => cases s with
    | none => exact absurd h (h' x)
    | some y => rw [ParB.one h h']
theorem zrow_cell {w : World} {zb n c i : Nat} {ws : List ByteArray} {x : ByteArray} (h : Row 1 encZ w (.slice (some ⟨zb, 0, none⟩) n c) ws) (hx : ws[i]? = some x) : w.cell? ⟨zb, i, none⟩ = some (.string x) ∧ zb < w.heap.size := by
  obtain ⟨a, cp, e, _, _, _, h4⟩ := h
  obtain ⟨b, off, e2, hlt, hc⟩ := h4 (Nat.lt_of_le_of_lt (Nat.zero_le _) (get_lt hx))
  injection e with e1 _ _
  rw [← e1] at e2
  injection e2 with e2; injection e2 with e3 e4 _
  subst e3 e4
  have := hc i x hx 0 _ rfl
  exact ⟨by simpa [encZ] using this, hlt⟩
theorem box2P {w : World} {b : Nat} {x y : Value} {T : TypeId} (h : w.heap[b]? = some (.cells #[x, y] T (0, 0))) : w.cell? ⟨b, 0, none⟩ = some x ∧ w.cell? ⟨b, 1, none⟩ = some y ∧ w.frozen? ⟨b, 0, none⟩ = false ∧ w.frozen? ⟨b, 1, none⟩ = false :=
  ⟨by simp [World.cell?, h], by simp [World.cell?, h], by simp [World.frozen?, h], by simp [World.frozen?, h]⟩
end Go.Proofs.YthbnbofoefdneaaDoor
