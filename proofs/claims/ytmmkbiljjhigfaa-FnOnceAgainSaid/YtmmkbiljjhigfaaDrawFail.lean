/- DrawFailOnce; plain facts for FnOnceAgain (made by gen_draws.py). -/
import Derived.Test.YtmmkbiljjhigfaaDrawsOnce
import Derived.Test.YtmmkbiljjhigfaaOnceFail
namespace Go.Proofs.Ytmmkbiljjhigfaa
open Go.RowKit
set_option linter.unusedSimpArgs false
set_option linter.unusedVariables false
set_option maxHeartbeats 1600000 in
theorem DrawFailOnce_calls (v : Value) (bs : List Int) (w : World) (h : Row 1 encB w v bs) (hbs : ∀ x ∈ bs, 0 ≤ x ∧ x ≤ 255) :
    Calls Try.prog 29 #[v] w fun e w' => ∃ v' c' y0, e = .returned (.tuple #[v', .int .i64 y0]) ∧ OnceOwn w.heap.size w'.heap.size w' v' c' ∧ OnceFew 7 c' ∧ Below w.heap.size w w' := by
  have H0 := Lib.hid h; have HBS := Lib.hid hbs; clear h hbs
  go_enter Try.func29, Try.ntmps29
  go_wp2_with (fail)
  refine (DrawFinishOnce_calls v bs _ (Row.below H0.out (Below.alloc (Below.refl _ _) (by first | omega | (simp only [szA, szS, szD, World.heap_drewN] at * <;> omega)) _)) HBS.out).mono ?_
  rintro e w1 ⟨vg, cg, y0, y1, rfl, ho_g, hfg, hb⟩
  have B1 := Lib.hid (Below.trans (Below.alloc (Below.refl _ _) (by first | omega | (simp only [szA, szS, szD, World.heap_drewN] at * <;> omega)) _) (hb.mono (by first | omega | (simp only [szA, szS, szD, World.heap_drewN] at * <;> omega))) : Below w.heap.size w w1)
  have Z1 := hb.size
  have N1 : w.heap.size + 1 ≤ w1.heap.size := (by first | exact Z1 | (simp only [szA, szS, szD] at Z1; omega))
  clear Z1
  have Xres_1 : Hid (w1.heap[w.heap.size]? = some (.cells #[.int .i64 0, .int .i64 0, .int .i64 0, .slice none 0 0] 25 (0, 0))) := below_at hb (heap_at' (n := w.heap.size) (by first | omega | (simp only [szA, szS, szD, World.heap_drewN] at * <;> omega)))
  have Og_1 := Lib.hid (ho_g.mono (lo' := w.heap.size) (by first | omega | (simp only [szA, szS, szD, World.heap_drewN] at * <;> omega)) (Nat.le_refl _)); obtain ⟨ag3, pg3, rfl, hx_g⟩ := ho_g; clear hx_g
  clear hb
  obtain ⟨cres1_0, cres1_1, cres1_2, cres1_3, fres1_0, fres1_1, fres1_2, fres1_3⟩ := box4 Xres_1.out; have lres1 := heap_lt Xres_1.out
  have S1 : w.heap.size ≤ w1.heap.size := (by omega)
  have HFG := Lib.hid hfg; clear hfg
  go_wp2_with (fail)
  refine bodyPost_ret (v := .tuple #[.agg #[.int .i64 cg.state, .int .i64 cg.owner, .int .i64 cg.value, .slice ag3 cg.waits.length pg3], .int .i64 y0]) (by simp [results, Try.results29, go_sem, cres1_0, cres1_1, cres1_2, cres1_3, lres1]) rfl ⟨_, cg, _, rfl, (((((Og_1.out.setB (w.heap.size) 0 Xres_1.out (by decide) (.int .i64 cg.state)).setB (w.heap.size) 1 (set_at (a := ⟨w.heap.size, 0, none⟩) Xres_1.out rfl rfl (.int .i64 cg.state)) (by decide) (.int .i64 cg.owner)).setB (w.heap.size) 2 (set_at (a := ⟨w.heap.size, 1, none⟩) (set_at (a := ⟨w.heap.size, 0, none⟩) Xres_1.out rfl rfl (.int .i64 cg.state)) rfl rfl (.int .i64 cg.owner)) (by decide) (.int .i64 cg.value)).setB (w.heap.size) 3 (set_at (a := ⟨w.heap.size, 2, none⟩) (set_at (a := ⟨w.heap.size, 1, none⟩) (set_at (a := ⟨w.heap.size, 0, none⟩) Xres_1.out rfl rfl (.int .i64 cg.state)) rfl rfl (.int .i64 cg.owner)) rfl rfl (.int .i64 cg.value)) (by decide) (.slice ag3 cg.waits.length pg3)).alloc _).mono (by first | omega | (simp only [szA, szS, szD, World.heap_drewN] at * <;> omega)) (by first | omega | (simp only [szA, szS, szD, World.heap_drewN] at * <;> omega)), HFG.out, (Below.alloc (below_setAt (below_setAt (below_setAt (below_setAt B1.out (w.heap.size) 0 (by first | omega | (simp only [szA, szS, szD, World.heap_drewN] at * <;> omega)) (.int .i64 cg.state)) (w.heap.size) 1 (by first | omega | (simp only [szA, szS, szD, World.heap_drewN] at * <;> omega)) (.int .i64 cg.owner)) (w.heap.size) 2 (by first | omega | (simp only [szA, szS, szD, World.heap_drewN] at * <;> omega)) (.int .i64 cg.value)) (w.heap.size) 3 (by first | omega | (simp only [szA, szS, szD, World.heap_drewN] at * <;> omega)) (.slice ag3 cg.waits.length pg3)) (by first | omega | (simp only [szA, szS, szD, World.heap_drewN] at * <;> omega)) _)⟩
theorem again_nil {o r : OnceD} {t : Int} (h : failD o t = (r, true)) (hl : ¬ 0 < o.waits.length) : enter r t = (⟨1, t, 0, []⟩, 0, true) := by
  cases hn : runsB o t
  · obtain ⟨_, k⟩ := fail_no h hn; cases k
  · obtain ⟨rfl, _⟩ := fail_nil h hn hl
    obtain ⟨h1, h2, h3⟩ := runsB_valid hn
    have ht : thrB t = true := by
      rcases onceB_st h1 with ⟨k, _⟩ | ⟨_, k, _⟩ | ⟨k, _⟩
      · omega
      · rw [h3] at k; exact thrB_true.2 k
      · omega
    exact enter_new onceB_zero rfl ht
theorem again_next {o r : OnceD} {t : Int} (h : failD o t = (r, true)) (hl : 0 < o.waits.length) : ∃ y ys, ys.length ≤ 6 ∧ enter r t = (⟨1, y, 0, ys ++ [t]⟩, 1, true) := by
  cases hn : runsB o t
  · obtain ⟨_, k⟩ := fail_no h hn; cases k
  · obtain ⟨y, hy⟩ := get_ex hl
    obtain ⟨rfl, _⟩ := fail_next h hn hy
    obtain ⟨h1, h2, h3⟩ := runsB_valid hn
    rcases onceB_st h1 with ⟨k, _⟩ | ⟨_, k1, k2, k3, k4⟩ | ⟨k, _⟩
    · omega
    · rw [h3] at k1 k4
      have hw : o.waits = y :: o.waits.drop 1 := by
        cases hq : o.waits with
        | nil => rw [hq] at hl; simp at hl
        | cons a q => rw [hq] at hy; simp at hy; simp [hy]
      have hd : Distinct (o.waits.drop 1) := ⟨fun x hx => k3.1 x (List.mem_of_mem_drop hx), k3.2.sublist (List.drop_sublist 1 _)⟩
      have hyn : y ∉ o.waits.drop 1 := by
        have := k3.2; rw [hw] at this; exact (List.nodup_cons.1 this).1
      have hty : ¬ (y = t ∨ t ∈ o.waits.drop 1) := by
        rintro (e | e)
        · exact k4 (by rw [hw, e]; simp)
        · exact k4 (List.mem_of_mem_drop e)
      refine ⟨y, o.waits.drop 1, by have := k3.six; simp only [List.length_drop]; omega, ?_⟩
      have hv : onceB ⟨1, y, 0, o.waits.drop 1⟩ = true := onceB_run (k3.1 y (List.mem_of_getElem? hy)) hd hyn
      unfold enter
      rw [if_pos ⟨hv, thrB_true.2 k1⟩, if_neg (show ¬ (1 : Int) = 0 by decide), if_neg (show ¬ (1 : Int) = 2 by decide), if_neg hty]
    · omega
end Go.Proofs.Ytmmkbiljjhigfaa
