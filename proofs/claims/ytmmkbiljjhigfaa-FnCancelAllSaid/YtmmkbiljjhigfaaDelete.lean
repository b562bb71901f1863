/- slices.Delete at []impl.Waiter of one element, over a slice that is owned. -/
import Derived.Test.YtmmkbiljjhigfaaDelW
import Derived.Lib.SliceRun
import Derived.Lib.ReflectliteSlice
namespace Go.Proofs.Ytmmkbiljjhigfaa
open Go.RowKit
set_option linter.unusedSimpArgs false
set_option linter.unusedVariables false

theorem run_clear_pair (w : World) (ty : TypeId) (b o c : Nat) (h0 : (w.cell? ⟨b, o, none⟩).isSome = true) (h1 : (w.cell? ⟨b, o + 1, none⟩).isSome = true) (f0 : w.frozen? ⟨b, o, none⟩ = false) (f1 : w.frozen? ⟨b, o + 1, none⟩ = false) :
    (Builtin.clear_ #[46] ty #[.slice (some ⟨b, o, none⟩) 1 c]).run Try.prog w = .ok (.tuple #[]) (w.setCells b o [.int .i64 0, .int .i64 0]) := by
  obtain ⟨i, hi, hz, hsize, hby⟩ := info_parts info_W
  have hv : (zeroValue 62).run Try.prog w = .ok (.agg #[.int .i64 0, .int .i64 0]) w := by
    have := Lib.rl_info (P := Try.prog) 62 i hi w
    simp [zeroValue, this, hz]
  have hst := run_storeCells_cells (P := Try.prog) b o [.int .i64 0, .int .i64 0] 0 w (by
    intro j hj
    match j, hj with
    | 0, _ => exact h0
    | 1, _ => exact h1) (by
    intro j hj
    match j, hj with
    | 0, _ => exact f0
    | 1, _ => exact f1) (by intro v hv; simp only [List.mem_cons, List.not_mem_nil, or_false, or_self] at hv; subst hv; rfl)
  simp only [Nat.add_zero] at hst
  have hzc : (Builtin.zeroCells (Value.agg #[.int .i64 0, .int .i64 0]).cells 1).toList = [.int .i64 0, .int .i64 0] := by
    have e : (Value.agg #[.int .i64 0, .int .i64 0]).cells = #[.int .i64 0, .int .i64 0] := by first | rfl | simp [Value.cells]
    rw [e]
    apply List.ext_getElem
    · simp [Builtin.zeroCells]
    · intro k h1 h2
      match k, h2 with
      | 0, _ => simp [Builtin.zeroCells]
      | 1, _ => simp [Builtin.zeroCells]
  simp [Builtin.clear_, run_underlying Try.underlying46, hv, hzc, hst]

set_option maxHeartbeats 2000000 in
set_option maxRecDepth 100000 in
theorem Delete_calls (base g cap i : Nat) (q : List (Int × Int)) (w : World) (h : Own base 62 2 encP w (.slice (some ⟨g, 0, none⟩) q.length cap) q) (hi : i < q.length) :
    Calls Try.prog 78 #[.slice (some ⟨g, 0, none⟩) q.length cap, .int .i64 i, .int .i64 ((i : Int) + 1)] w fun e w' =>
      e = .returned (.slice (some ⟨g, 0, none⟩) (q.length - 1) cap) ∧ Own base 62 2 encP w' (.slice (some ⟨g, 0, none⟩) (q.length - 1) cap) (cut q i) ∧ w.grownBy w' (some g) := by
  obtain ⟨j0, hj0, hz, hsize, hby⟩ := info_parts info_W
  obtain ⟨_, _, _, hb, hf, cur, hg, hc, hm, hs, ht⟩ := h.open
  have hcm : cap ≤ 9223372036854775807 := by unfold maxLen at hm; omega
  obtain ⟨news, hnews⟩ : ∃ news, news = (q.drop (i + 1)).flatMap encP := ⟨_, rfl⟩
  have hlen : news.length = (q.length - (i + 1)) * 2 := by rw [hnews, flat_length encP_len]; simp
  obtain ⟨A, hA, hsrc⟩ : ∃ A : Addr, (if cap = i + 1 then (some (⟨g, 0, none⟩ : Addr)) else some ⟨g, (i + 1) * 2, none⟩) = some A ∧ Hid (∀ t u, news[t]? = some u → w.drew.cell? (A.add t) = some u) := by
    obtain ⟨a, c, e, h1, h2⟩ := Row.src encP_len (by decide) (Row.rest (h.row encP_len) (i := i + 1) (by omega))
    simp only [Value.slice.injEq] at e
    obtain ⟨rfl, _, rfl⟩ := e
    rw [← hnews] at h2
    by_cases hcc : cap = i + 1
    · rw [if_pos hcc] at h2
      exact ⟨_, if_pos hcc, h2 _ rfl⟩
    · rw [if_neg hcc, Nat.zero_add] at h2
      exact ⟨_, if_neg hcc, h2 _ rfl⟩
  have s1 : Hid (news.length = (q.length - (i + 1)) * 2) := hlen
  have s2 : Hid (∀ u ∈ news, u.oneCell' = true) := fun u hu => by
    rw [hnews] at hu
    obtain ⟨y, _, hu⟩ := List.mem_flatMap.1 hu
    exact one_pair y u hu
  have s3 : Hid (∀ t, t < news.length → (w.drew.cell? ⟨g, 0 + i * 2 + t, none⟩).isSome = true ∧ w.drew.frozen? ⟨g, 0 + i * 2 + t, none⟩ = false) := fun t ht => by
    rw [hlen] at ht
    obtain ⟨⟨u, hu⟩, hf⟩ := h.room (i := 0 + i * 2 + t) (by omega)
    exact ⟨by show (w.cell? _).isSome = true; rw [hu]; rfl, hf⟩
  have HF := Lib.hid (del_own (w := w.drew) (zs := [.int .i64 0, .int .i64 0]) h hi rfl)
  have hgr : w.grownBy w.drew (some g) := ⟨rfl, rfl, rfl, Nat.le_refl _, fun k _ _ => rfl⟩
  have HG := Lib.hid (grown_setCells [.int .i64 0, .int .i64 0] ((q.length - 1) * 2) _ (grown_setCells news (i * 2) _ hgr))
  rw [← hnews] at HF
  obtain ⟨W1, hW1⟩ : ∃ W1, W1 = w.drew.setCells g (i * 2) news := ⟨_, rfl⟩
  have hcl : ∀ ty c, (Builtin.clear_ #[46] ty #[.slice (some ⟨g, (q.length - 1) * 2, none⟩) 1 c]).run Try.prog W1 = .ok (.tuple #[]) (W1.setCells g ((q.length - 1) * 2) [.int .i64 0, .int .i64 0]) := by
    intro ty c
    obtain ⟨c1, g1, e1, _, _⟩ := heap_setCells news (i * 2) w.drew cur hg (by omega)
    rw [← hW1] at g1
    have hcell : ∀ x, x < cap * 2 → (W1.cell? ⟨g, x, none⟩).isSome = true ∧ W1.frozen? ⟨g, x, none⟩ = false := fun x hx => by
      constructor
      · rw [cell_of_row W1 g x c1 _ (0, 0) g1, Array.getElem?_eq_getElem (by omega)]; rfl
      · simp [World.frozen?, g1]
    exact run_clear_pair W1 ty g _ c (hcell _ (by omega)).1 (hcell _ (by omega)).1 (hcell _ (by omega)).2 (hcell _ (by omega)).2
  rw [← hW1] at HF HG
  have hW : Hid (W1 = w.drew.setCells g (0 + i * 2) news) := by rw [Nat.zero_add]; exact hW1
  have hic : i ≤ cap := by omega
  have hjc : i + 1 ≤ cap := by omega
  have hsum : i + (q.length - (i + 1)) = q.length - 1 := by omega
  have hle1 : ((q.length - 1 : Nat) : Int) ≤ (q.length : Int) := by omega
  have hle2 : q.length - 1 ≤ cap := by omega
  have hne1 : ¬ cap = q.length - 1 := by omega
  have hone : q.length - (q.length - 1) = 1 := by omega
  have hz0 : (0 : Int) ≤ (i : Int) + 1 := by omega
  have hzn : (i : Int) + 1 ≤ (q.length : Int) := by omega
  clear hW1 hnews hlen hgr hs ht hg hf h
  go_enter Try.func78, Try.ntmps78
  go_wp2_with fail
  go_region_law (refine step_append_room rfl (.tmp 22) (.tmp 25) 46 rfl 62 j0 2 Try.underlying46 hj0 hsize g 0 i cap (by simp [Act.eval, Act.put]) A (q.length - (i + 1)) (cap - (i + 1)) news (by simp [Act.eval, Act.put, hA]) s1.out hsrc.out s2.out (by omega) s3.out ?_; rw [← hW.out, hsum])
  go_wp2
  go_ret
  exact ⟨rfl, HF.out, HG.out⟩
end Go.Proofs.Ytmmkbiljjhigfaa
