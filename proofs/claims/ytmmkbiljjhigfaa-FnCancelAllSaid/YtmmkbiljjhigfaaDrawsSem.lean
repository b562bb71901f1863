/- What is drawn for the laws on semaphores (made by gen_draws.py). -/
import Derived.Test.YtmmkbiljjhigfaaDrawSem1
import Derived.Test.YtmmkbiljjhigfaaDWSem
import Derived.Test.YtmmkbiljjhigfaaDrawsOut
namespace Go.Proofs.Ytmmkbiljjhigfaa
open Go.RowKit
set_option linter.unusedSimpArgs false
set_option linter.unusedVariables false
theorem l1DrawD (b N : Nat) (w0 w : World) (h : Dr w0 b N w) (hN : N ≤ 900000) :
    Calls Try.prog 87 #[.pointer (some ⟨b, 0, none⟩)] w fun e w' => ∃ v c, e = .returned v ∧ SemOwn w.heap.size w'.heap.size w' v c ∧ SemFew 6 c ∧ Dr w b (N + 100) w' := by
  refine (l1Draw_calls b N w h.r hN).mono ?_
  rintro e w' ⟨f, l, qv, q, rfl, ho, hs, hr, hg⟩
  exact ⟨_, ⟨f, l, q⟩, rfl, SemOwn.make ho (Nat.le_refl _), (semB_true.1 hs).1.2.2.2.2, (Dr.start h.r).step hr hg⟩
set_option maxHeartbeats 1600000 in
theorem l1Case_calls (v : Value) (bs : List Int) (w : World) (h : Row 1 encB w v bs) (hbs : ∀ x ∈ bs, 0 ≤ x ∧ x ≤ 255) :
    Calls Try.prog 70 #[v] w fun e w' => ∃ v' c' y0 y1, e = .returned (.tuple #[v', .int .i64 y0, .int .i64 y1]) ∧ SemOwn w.heap.size w'.heap.size w' v' c' ∧ SemFew 7 c' ∧ (-1 ≤ y0 ∧ y0 ≤ 6) ∧ (0 ≤ y1 ∧ y1 ≤ 10) ∧ Below w.heap.size w w' := by
  have H0 := Lib.hid h; have HBS := Lib.hid hbs; clear h hbs
  go_enter Try.func70, Try.ntmps70
  go_wp2_with (fail)
  refine (l13Open_calls v bs _ (Row.below H0.out (Below.alloc (Below.refl _ _) (by first | omega | (simp only [szA, szS, szD, World.heap_drewN] at * <;> omega)) _)) HBS.out).mono ?_
  rintro e w1 ⟨rfl, hr, hb⟩
  have B1 := Lib.hid (Below.trans (Below.alloc (Below.refl _ _) (by first | omega | (simp only [szA, szS, szD, World.heap_drewN] at * <;> omega)) _) (hb.mono (by first | omega | (simp only [szA, szS, szD, World.heap_drewN] at * <;> omega))) : Below w.heap.size w w1)
  have Z1 := hb.size
  have N1 : w.heap.size + 1 ≤ w1.heap.size := (by first | exact Z1 | (simp only [szA, szS, szD] at Z1; omega))
  clear Z1
  have Xres_1 : Hid (w1.heap[w.heap.size]? = some (.cells #[.int .i64 0, .int .i64 0, .slice none 0 0] 48 (0, 0))) := below_at hb (heap_at' (n := w.heap.size) (by first | omega | (simp only [szA, szS, szD, World.heap_drewN] at * <;> omega)))
  clear hb
  obtain ⟨cres1_0, cres1_1, cres1_2, fres1_0, fres1_1, fres1_2⟩ := box3 Xres_1.out; have lres1 := heap_lt Xres_1.out
  have S1 : w.heap.size ≤ w1.heap.size := by omega
  simp only [szA] at hr
  have A1 := Lib.hid (Dr.start hr); have hlt := hr.lt; clear hr
  have S1 : w1.heap.size ≤ w1.heap.size := Nat.le_refl _
  have SB : w.heap.size ≤ w1.heap.size := by omega
  go_wp2_with (fail)
  refine (l1DrawD (w.heap.size + 1) 0 w1 _ A1.out (by omega)).mono ?_
  rintro e w2 ⟨vd, cd, rfl, ho_d, hfd, hd⟩
  have A2 := Lib.hid (Dr.then A1.out hd)
  have Z2 := hd.size
  have N2 : w1.heap.size ≤ w2.heap.size := (by first | exact Z2 | (simp only [szA, szS, szD] at Z2; omega))
  clear Z2
  have Xres_2 := Lib.hid (hd.at_ Xres_1.out (by first | omega | (simp only [szA, szS, szD, World.heap_drewN] at * <;> omega)))
  have Od_2 := Lib.hid (ho_d.mono (lo' := w1.heap.size) (by first | omega | (simp only [szA, szS, szD, World.heap_drewN] at * <;> omega)) (Nat.le_refl _)); obtain ⟨ad2, pd2, rfl, hx_d⟩ := ho_d; clear hx_d
  clear hd
  obtain ⟨cres2_0, cres2_1, cres2_2, fres2_0, fres2_1, fres2_2⟩ := box3 Xres_2.out; have lres2 := heap_lt Xres_2.out
  have S2 : w1.heap.size ≤ w2.heap.size := by omega
  clear cres1_0 cres1_1 cres1_2 fres1_0 fres1_1 fres1_2
  go_wp2_with (fail)
  refine (l1Wrong_calls (w.heap.size + 1) (0 + 100) 6 _ cd w1 _ A2.out (by omega) (Od_2.out.row) hfd (by omega)).mono ?_
  rintro e w3 ⟨vg, cg, rfl, ho_g, hfg, hd⟩
  have A3 := Lib.hid (Dr.then A2.out hd)
  have Z3 := hd.size
  have N3 : w2.heap.size ≤ w3.heap.size := (by first | exact Z3 | (simp only [szA, szS, szD] at Z3; omega))
  clear Z3
  have Xres_3 := Lib.hid (hd.at_ Xres_2.out (by first | omega | (simp only [szA, szS, szD, World.heap_drewN] at * <;> omega)))
  have Od_3 := Lib.hid (Od_2.out.past hd.g hlt)
  have Og_3 := Lib.hid (ho_g.mono (lo' := w1.heap.size) (by first | omega | (simp only [szA, szS, szD, World.heap_drewN] at * <;> omega)) (Nat.le_refl _)); obtain ⟨ag2, pg2, rfl, hx_g⟩ := ho_g; clear hx_g
  clear hd
  obtain ⟨cres3_0, cres3_1, cres3_2, fres3_0, fres3_1, fres3_2⟩ := box3 Xres_3.out; have lres3 := heap_lt Xres_3.out
  have S3 : w1.heap.size ≤ w3.heap.size := by omega
  clear cres2_0 cres2_1 cres2_2 fres2_0 fres2_1 fres2_2
  go_wp2_with (fail)
  refine (numD (w.heap.size + 1) (0 + 103) _ [0, 1, 2, 3, 5, 6, -1] w1 _ (A3.out.alloc _) (by omega) (lit_row _ (by decide) rfl rfl (by first | omega | (simp only [szA, szS, szD, World.heap_drewN] at * <;> omega))) (by decide) (by simp [Value.ownBlock]; omega)).mono ?_
  rintro e w4 ⟨y0, rfl, hy0, hd⟩
  have A4 := Lib.hid (Dr.then (A3.out.alloc _) hd)
  have Z4 := hd.size
  have N4 : w3.heap.size + 1 ≤ w4.heap.size := (by first | exact Z4 | (simp only [szA, szS, szD] at Z4; omega))
  clear Z4
  have Xres_4 := Lib.hid (hd.at_ (heap_up Xres_3.out) (by first | omega | (simp only [szA, szS, szD, World.heap_drewN] at * <;> omega)))
  have Og_4 := Lib.hid ((Og_3.out.alloc _).past hd.g hlt)
  clear hd
  obtain ⟨cres4_0, cres4_1, cres4_2, fres4_0, fres4_1, fres4_2⟩ := box3 Xres_4.out; have lres4 := heap_lt Xres_4.out
  have S4 : w1.heap.size ≤ w4.heap.size := by omega
  clear cres3_0 cres3_1 cres3_2 fres3_0 fres3_1 fres3_2
  have hy0b : -1 ≤ y0 ∧ y0 ≤ 6 := by simp at hy0; omega
  obtain ⟨hy00, hy01⟩ := hy0b; clear hy0
  go_wp2_with (fail)
  refine (numD (w.heap.size + 1) (0 + 104) _ [1, 2, 1, 3, 0, 10] w1 _ (A4.out.alloc _) (by omega) (lit_row _ (by decide) rfl rfl (by first | omega | (simp only [szA, szS, szD, World.heap_drewN] at * <;> omega))) (by decide) (by simp [Value.ownBlock]; omega)).mono ?_
  rintro e w5 ⟨y1, rfl, hy1, hd⟩
  have A5 := Lib.hid (Dr.then (A4.out.alloc _) hd)
  have Z5 := hd.size
  have N5 : w4.heap.size + 1 ≤ w5.heap.size := (by first | exact Z5 | (simp only [szA, szS, szD] at Z5; omega))
  clear Z5
  have Xres_5 := Lib.hid (hd.at_ (heap_up Xres_4.out) (by first | omega | (simp only [szA, szS, szD, World.heap_drewN] at * <;> omega)))
  have Og_5 := Lib.hid ((Og_4.out.alloc _).past hd.g hlt)
  clear hd
  obtain ⟨cres5_0, cres5_1, cres5_2, fres5_0, fres5_1, fres5_2⟩ := box3 Xres_5.out; have lres5 := heap_lt Xres_5.out
  have S5 : w1.heap.size ≤ w5.heap.size := by omega
  clear cres4_0 cres4_1 cres4_2 fres4_0 fres4_1 fres4_2
  have hy1b : 0 ≤ y1 ∧ y1 ≤ 10 := by simp at hy1; omega
  obtain ⟨hy10, hy11⟩ := hy1b; clear hy1
  go_wp2_with (fail)
  refine bodyPost_ret (v := .tuple #[.agg #[.int .i64 cg.free, .int .i64 cg.limit, .slice ag2 cg.q.length pg2], .int .i64 y0, .int .i64 y1]) (by simp [results, Try.results70, go_sem, cres5_0, cres5_1, cres5_2, lres5]) rfl ⟨_, cg, y0, y1, rfl, (((Og_5.out.setB (w.heap.size) 0 Xres_5.out (by decide) (.int .i64 cg.free)).setB (w.heap.size) 1 (set_at (a := ⟨w.heap.size, 0, none⟩) Xres_5.out rfl rfl (.int .i64 cg.free)) (by decide) (.int .i64 cg.limit)).setB (w.heap.size) 2 (set_at (a := ⟨w.heap.size, 1, none⟩) (set_at (a := ⟨w.heap.size, 0, none⟩) Xres_5.out rfl rfl (.int .i64 cg.free)) rfl rfl (.int .i64 cg.limit)) (by decide) (.slice ag2 cg.q.length pg2)).mono (by first | omega | (simp only [szA, szS, szD, World.heap_drewN] at * <;> omega)) (by first | omega | (simp only [szA, szS, szD, World.heap_drewN] at * <;> omega)), hfg, ⟨hy00, hy01⟩, ⟨hy10, hy11⟩, (below_setAt (below_setAt (below_setAt (Dr.out B1.out A5.out (by omega)) (w.heap.size) 0 (by first | omega | (simp only [szA, szS, szD, World.heap_drewN] at * <;> omega)) (.int .i64 cg.free)) (w.heap.size) 1 (by first | omega | (simp only [szA, szS, szD, World.heap_drewN] at * <;> omega)) (.int .i64 cg.limit)) (w.heap.size) 2 (by first | omega | (simp only [szA, szS, szD, World.heap_drewN] at * <;> omega)) (.slice ag2 cg.q.length pg2))⟩
set_option maxHeartbeats 1600000 in
theorem DrawAcquire_calls (v : Value) (bs : List Int) (w : World) (h : Row 1 encB w v bs) (hbs : ∀ x ∈ bs, 0 ≤ x ∧ x ≤ 255) :
    Calls Try.prog 32 #[v] w fun e w' => ∃ v' c' y0 y1, e = .returned (.tuple #[v', .int .i64 y0, .int .i64 y1]) ∧ SemOwn w.heap.size w'.heap.size w' v' c' ∧ SemFew 7 c' ∧ (-1 ≤ y0 ∧ y0 ≤ 6) ∧ (0 ≤ y1 ∧ y1 ≤ 10) ∧ Below w.heap.size w w' := by
  have H0 := Lib.hid h; have HBS := Lib.hid hbs; clear h hbs
  go_enter Try.func32, Try.ntmps32
  go_wp2_with (fail)
  refine (l1Case_calls v bs _ (Row.below H0.out (Below.alloc (Below.refl _ _) (by first | omega | (simp only [szA, szS, szD, World.heap_drewN] at * <;> omega)) _)) HBS.out).mono ?_
  rintro e w1 ⟨vg, cg, y0, y1, rfl, ho_g, hfg, hy0, hy1, hb⟩
  have B1 := Lib.hid (Below.trans (Below.alloc (Below.refl _ _) (by first | omega | (simp only [szA, szS, szD, World.heap_drewN] at * <;> omega)) _) (hb.mono (by first | omega | (simp only [szA, szS, szD, World.heap_drewN] at * <;> omega))) : Below w.heap.size w w1)
  have Z1 := hb.size
  have N1 : w.heap.size + 1 ≤ w1.heap.size := (by first | exact Z1 | (simp only [szA, szS, szD] at Z1; omega))
  clear Z1
  have Xres_1 : Hid (w1.heap[w.heap.size]? = some (.cells #[.int .i64 0, .int .i64 0, .slice none 0 0] 48 (0, 0))) := below_at hb (heap_at' (n := w.heap.size) (by first | omega | (simp only [szA, szS, szD, World.heap_drewN] at * <;> omega)))
  have Og_1 := Lib.hid (ho_g.mono (lo' := w.heap.size) (by first | omega | (simp only [szA, szS, szD, World.heap_drewN] at * <;> omega)) (Nat.le_refl _)); obtain ⟨ag2, pg2, rfl, hx_g⟩ := ho_g; clear hx_g
  clear hb
  obtain ⟨cres1_0, cres1_1, cres1_2, fres1_0, fres1_1, fres1_2⟩ := box3 Xres_1.out; have lres1 := heap_lt Xres_1.out
  have S1 : w.heap.size ≤ w1.heap.size := by omega
  go_wp2_with (fail)
  refine bodyPost_ret (v := .tuple #[.agg #[.int .i64 cg.free, .int .i64 cg.limit, .slice ag2 cg.q.length pg2], .int .i64 y0, .int .i64 y1]) (by simp [results, Try.results32, go_sem, cres1_0, cres1_1, cres1_2, lres1]) rfl ⟨_, cg, y0, y1, rfl, (((Og_1.out.setB (w.heap.size) 0 Xres_1.out (by decide) (.int .i64 cg.free)).setB (w.heap.size) 1 (set_at (a := ⟨w.heap.size, 0, none⟩) Xres_1.out rfl rfl (.int .i64 cg.free)) (by decide) (.int .i64 cg.limit)).setB (w.heap.size) 2 (set_at (a := ⟨w.heap.size, 1, none⟩) (set_at (a := ⟨w.heap.size, 0, none⟩) Xres_1.out rfl rfl (.int .i64 cg.free)) rfl rfl (.int .i64 cg.limit)) (by decide) (.slice ag2 cg.q.length pg2)).mono (by first | omega | (simp only [szA, szS, szD, World.heap_drewN] at * <;> omega)) (by first | omega | (simp only [szA, szS, szD, World.heap_drewN] at * <;> omega)), hfg, hy0, hy1, (below_setAt (below_setAt (below_setAt B1.out (w.heap.size) 0 (by first | omega | (simp only [szA, szS, szD, World.heap_drewN] at * <;> omega)) (.int .i64 cg.free)) (w.heap.size) 1 (by first | omega | (simp only [szA, szS, szD, World.heap_drewN] at * <;> omega)) (.int .i64 cg.limit)) (w.heap.size) 2 (by first | omega | (simp only [szA, szS, szD, World.heap_drewN] at * <;> omega)) (.slice ag2 cg.q.length pg2))⟩
end Go.Proofs.Ytmmkbiljjhigfaa
