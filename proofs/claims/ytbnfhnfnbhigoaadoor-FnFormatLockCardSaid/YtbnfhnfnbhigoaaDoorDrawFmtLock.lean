/- What is drawn for the laws on locks (made by gen_lockdraws2.py). -/
import Derived.Test.YtbnfhnfnbhigoaaDoorDrawsLock
namespace Go.Proofs.YtbnfhnfnbhigoaaDoor
open Go.RowKit
set_option linter.unusedSimpArgs false
set_option linter.unusedVariables false
set_option maxHeartbeats 1600000 in
theorem DrawFormatLock_calls (v : Value) (bs : List Int) (w : World) (h : Row 1 encB w v bs) (hbs : ∀ x ∈ bs, 0 ≤ x ∧ x ≤ 255) :
    Calls Tryd.prog 15 #[v] w fun e w' => ∃ v' c', e = .returned v' ∧ LockOwn w.heap.size w'.heap.size w' v' c' ∧ LockFew 14 c' ∧ Below w.heap.size w w' := by
  have H0 := Lib.hid h; have HBS := Lib.hid hbs; clear h hbs
  go_enter Tryd.func15, Tryd.ntmps15
  go_wp2_with (fail)
  refine (l4Case_calls v bs _ (Row.below H0.out (Below.alloc (Below.refl _ _) (by first | omega | (simp only [szA, szS, szD, World.heap_drewN] at * <;> omega)) _)) HBS.out).mono ?_
  rintro e w1 ⟨vg, cg, y, rfl, ho_g, hfg, hb⟩
  have B1 := Lib.hid (Below.trans (Below.alloc (Below.refl _ _) (by first | omega | (simp only [szA, szS, szD, World.heap_drewN] at * <;> omega)) _) (hb.mono (by first | omega | (simp only [szA, szS, szD, World.heap_drewN] at * <;> omega))) : Below w.heap.size w w1)
  have Z1 := hb.size
  have N1 : w.heap.size + 1 ≤ w1.heap.size := (by first | with_reducible exact Z1 | (simp only [szA, szS, szD] at Z1; omega))
  clear Z1
  have Xres_1 : Hid (w1.heap[w.heap.size]? = some (.cells #[.slice none 0 0, .int .i64 0, .slice none 0 0] 30 (0, 0))) := below_at hb (heap_at' (n := w.heap.size) (by first | omega | (simp only [szA, szS, szD, World.heap_drewN] at * <;> omega)))
  have Og_1 := Lib.hid (ho_g.mono (lo' := w.heap.size) (by first | omega | (simp only [szA, szS, szD, World.heap_drewN] at * <;> omega)) (Nat.le_refl _)); obtain ⟨ag0, pg0, ag2, pg2, rfl, hx_g⟩ := ho_g; clear hx_g
  clear hb
  obtain ⟨cres1_0, cres1_1, cres1_2, fres1_0, fres1_1, fres1_2⟩ := box3 Xres_1.out; have lres1 := heap_lt Xres_1.out
  have S1 : w.heap.size ≤ w1.heap.size := (by omega)
  go_wp2_with (fail)
  refine bodyPost_ret (v := .agg #[.slice ag0 cg.readers.length pg0, .int .i64 cg.writer, .slice ag2 cg.q.length pg2]) (by simp [results, Tryd.results15, go_sem, cres1_0, cres1_1, cres1_2, lres1]) rfl ⟨_, cg, rfl, ((((Og_1.out.setB (w.heap.size) 0 Xres_1.out (by decide) (.slice ag0 cg.readers.length pg0)).setB (w.heap.size) 1 (set_at (a := ⟨w.heap.size, 0, none⟩) Xres_1.out rfl rfl (.slice ag0 cg.readers.length pg0)) (by decide) (.int .i64 cg.writer)).setB (w.heap.size) 2 (set_at (a := ⟨w.heap.size, 1, none⟩) (set_at (a := ⟨w.heap.size, 0, none⟩) Xres_1.out rfl rfl (.slice ag0 cg.readers.length pg0)) rfl rfl (.int .i64 cg.writer)) (by decide) (.slice ag2 cg.q.length pg2)).alloc _).mono (by first | omega | (simp only [szA, szS, szD, World.heap_drewN] at * <;> omega)) (by first | omega | (simp only [szA, szS, szD, World.heap_drewN] at * <;> omega)), hfg, (Below.alloc (below_setAt (below_setAt (below_setAt B1.out (w.heap.size) 0 (by first | omega | (simp only [szA, szS, szD, World.heap_drewN] at * <;> omega)) (.slice ag0 cg.readers.length pg0)) (w.heap.size) 1 (by first | omega | (simp only [szA, szS, szD, World.heap_drewN] at * <;> omega)) (.int .i64 cg.writer)) (w.heap.size) 2 (by first | omega | (simp only [szA, szS, szD, World.heap_drewN] at * <;> omega)) (.slice ag2 cg.q.length pg2)) (by first | omega | (simp only [szA, szS, szD, World.heap_drewN] at * <;> omega)) _)⟩
end Go.Proofs.YtbnfhnfnbhigoaaDoor
