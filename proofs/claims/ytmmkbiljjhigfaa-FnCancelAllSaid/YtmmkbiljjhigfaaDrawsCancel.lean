/- DrawCancelWait (made by gen_draws.py). -/
import Derived.Test.YtmmkbiljjhigfaaDrawsSem
import Derived.Test.YtmmkbiljjhigfaaLawSem
namespace Go.Proofs.Ytmmkbiljjhigfaa
open Go.RowKit
set_option linter.unusedSimpArgs false
set_option linter.unusedVariables false
set_option maxHeartbeats 3200000 in
theorem DrawCancelWait_calls (v : Value) (bs : List Int) (w : World) (h : Row 1 encB w v bs) (hbs : ∀ x ∈ bs, 0 ≤ x ∧ x ≤ 255) :
    Calls Try.prog 40 #[v] w fun e w' => ∃ v' c' y0, e = .returned (.tuple #[v', .int .i64 y0]) ∧ SemOwn w.heap.size w'.heap.size w' v' c' ∧ SemFew 7 c' ∧ Below w.heap.size w w' := by
  have H0 := Lib.hid h; have HBS := Lib.hid hbs; clear h hbs
  go_enter Try.func40, Try.ntmps40
  go_wp2_with (fail)
  refine (l1Case_calls v bs _ (Row.below H0.out (Below.alloc (Below.refl _ _) (by first | omega | (simp only [szA, szS, szD, World.heap_drewN] at * <;> omega)) _)) HBS.out).mono ?_
  rintro e w1 ⟨vg, cg, y0, y1, rfl, ho_g, hfg, hy0, hy1, hb⟩
  have B1 := Lib.hid (Below.trans (Below.alloc (Below.refl _ _) (by first | omega | (simp only [szA, szS, szD, World.heap_drewN] at * <;> omega)) _) (hb.mono (by first | omega | (simp only [szA, szS, szD, World.heap_drewN] at * <;> omega))) : Below w.heap.size w w1)
  have Z1 := hb.size
  have N1 : w.heap.size + 1 ≤ w1.heap.size := (by first | exact Z1 | (simp only [szA, szS, szD] at Z1; omega))
  clear Z1
  have Xres_1 : Hid (w1.heap[w.heap.size]? = some (.cells #[.int .i64 0, .int .i64 0, .slice none 0 0] 48 (0, 0))) := below_at hb (heap_at' (n := w.heap.size) (by first | omega | (simp only [szA, szS, szD, World.heap_drewN] at * <;> omega)))
  have Og_1 := Lib.hid (ho_g.mono (lo' := w.heap.size) (by first | omega | (simp only [szA, szS, szD, World.heap_drewN] at * <;> omega)) (Nat.le_refl _)); obtain ⟨ag2, pg2, rfl, hx_g⟩ := ho_g; clear hx_g
  clear hb
  obtain ⟨cres1_0, cres1_1, cres1_2, fres1_0, fres1_1, fres1_2⟩ := box3 Xres_1.out; have lres1 := heap_lt Xres_1.out
  have S1 : w.heap.size ≤ w1.heap.size := (by omega)
  have HFG := Lib.hid hfg; have hql : cg.q.length ≤ 7 := hfg; clear hfg hy0 hy1
  go_wp2_with (fail)
  refine (l13Open_calls v bs _ (Row.below H0.out (Below.alloc B1.out (by first | omega | (simp only [szA, szS, szD, World.heap_drewN] at * <;> omega)) _)) HBS.out).mono ?_
  rintro e w2 ⟨rfl, hr, hb⟩
  have B2 := Lib.hid (Below.trans (Below.alloc B1.out (by first | omega | (simp only [szA, szS, szD, World.heap_drewN] at * <;> omega)) _) (hb.mono (by first | omega | (simp only [szA, szS, szD, World.heap_drewN] at * <;> omega))) : Below w.heap.size w w2)
  have Z2 := hb.size
  have N2 : w1.heap.size + 1 ≤ w2.heap.size := (by first | exact Z2 | (simp only [szA, szS, szD] at Z2; omega))
  clear Z2
  have Xres_2 := Lib.hid (below_at hb (heap_up Xres_1.out))
  have Xs_2 : Hid (w2.heap[w1.heap.size]? = some (.cells #[.int .i64 cg.free, .int .i64 cg.limit, .slice ag2 cg.q.length pg2] 48 (0, 0))) := below_at hb (heap_at' (n := w1.heap.size) (by first | omega | (simp only [szA, szS, szD, World.heap_drewN] at * <;> omega)))
  have Og_2 := Lib.hid ((Og_1.out.alloc _).kept hb)
  clear hb
  obtain ⟨cres2_0, cres2_1, cres2_2, fres2_0, fres2_1, fres2_2⟩ := box3 Xres_2.out; have lres2 := heap_lt Xres_2.out
  obtain ⟨cs2_0, cs2_1, cs2_2, fs2_0, fs2_1, fs2_2⟩ := box3 Xs_2.out; have ls2 := heap_lt Xs_2.out
  have S2 : w.heap.size ≤ w2.heap.size := (by omega)
  clear cres1_0 cres1_1 cres1_2 fres1_0 fres1_1 fres1_2
  simp only [szA] at hr
  have A2 := Lib.hid (Dr.start hr); have hlt := hr.lt; clear hr
  have S2 : w2.heap.size ≤ w2.heap.size := Nat.le_refl _
  have SB : w.heap.size ≤ w2.heap.size := by omega
  by_cases hq : 0 < cg.q.length
  · have d1 := len_ne hq
    have d2 : (0 < cg.q.length) := hq
    have d3 := decide_eq_true hq
    go_wp2_with (fail)
    refine (pickD (w1.heap.size + 1) 0 4 w2 _ A2.out (by omega) (by decide)).mono ?_
    rintro e w3 ⟨x, rfl, hx0, hx1, hd⟩
    have A3 := Lib.hid (Dr.then A2.out hd)
    have Z3 := hd.size
    have N3 : w2.heap.size ≤ w3.heap.size := (by first | exact Z3 | (simp only [szA, szS, szD] at Z3; omega))
    clear Z3
    have Xres_3 := Lib.hid (hd.at_ Xres_2.out (by first | omega | (simp only [szA, szS, szD, World.heap_drewN] at * <;> omega)))
    have Xs_3 := Lib.hid (hd.at_ Xs_2.out (by first | omega | (simp only [szA, szS, szD, World.heap_drewN] at * <;> omega)))
    have Og_3 := Lib.hid (Og_2.out.pastHi hd.g (by omega))
    clear hd
    obtain ⟨cres3_0, cres3_1, cres3_2, fres3_0, fres3_1, fres3_2⟩ := box3 Xres_3.out; have lres3 := heap_lt Xres_3.out
    obtain ⟨cs3_0, cs3_1, cs3_2, fs3_0, fs3_1, fs3_2⟩ := box3 Xs_3.out; have ls3 := heap_lt Xs_3.out
    have S3 : w2.heap.size ≤ w3.heap.size := (by omega)
    clear cres2_0 cres2_1 cres2_2 fres2_0 fres2_1 fres2_2 cs2_0 cs2_1 cs2_2 fs2_0 fs2_1 fs2_2
    by_cases h0 : 0 < x
    · have e0 := decide_eq_true h0
      go_wp2_with (fail)
      go_region_law ((refine step_fn rfl 68 #[.pointer (some ⟨w1.heap.size + 1, 0, none⟩), .int .i64 (cg.q.length : Int)] (by simp [execOp, resolve, invoke, Act.eval, Act.put, go_sem]) ((pickD (w1.heap.size + 1) (0 + 1) (cg.q.length : Int) w2 _ (by exact (A3.out.drew)) (by omega) (by omega)).mono ?_); rintro e w4 ⟨y, rfl, hya, hyb, hd⟩; refine ⟨_, rfl, ?_⟩; have A4 := Lib.hid (Dr.then (A3.out.drew) hd); have Z4 := hd.size; have N4 : w3.heap.size ≤ w4.heap.size := (by first | exact Z4 | (simp only [szA, szS, szD] at Z4; omega)); clear Z4; have Xres_4 := Lib.hid (hd.at_ (heap_drew Xres_3.out) (by first | omega | (simp only [szA, szS, szD, World.heap_drewN] at * <;> omega))); have Xs_4 := Lib.hid (hd.at_ (heap_drew Xs_3.out) (by first | omega | (simp only [szA, szS, szD, World.heap_drewN] at * <;> omega))); have Og_4 := Lib.hid ((Og_3.out.drew).pastHi hd.g (by omega)); clear hd; obtain ⟨cres4_0, cres4_1, cres4_2, fres4_0, fres4_1, fres4_2⟩ := box3 Xres_4.out; have lres4 := heap_lt Xres_4.out; obtain ⟨cs4_0, cs4_1, cs4_2, fs4_0, fs4_1, fs4_2⟩ := box3 Xs_4.out; have ls4 := heap_lt Xs_4.out; have S4 : w2.heap.size ≤ w4.heap.size := (by omega); obtain ⟨k, rfl⟩ := Int.eq_ofNat_of_zero_le hya; have hkl : k < cg.q.length := (by omega); have j1 : (k : Int) < (cg.q.length : Int) := (by omega); have j0 : (0 : Int) ≤ (k : Int) := (by omega); obtain ⟨z, hz⟩ := get_ex hkl; obtain ⟨bb, off, hab, hblt, hc⟩ := PRow.at_ (SemRow.at_ (Og_4.out.row)) (by omega); subst hab; obtain ⟨c1, c2⟩ := hc k z hz; clear hc hz))
      clear cres3_0 cres3_1 cres3_2 fres3_0 fres3_1 fres3_2 cs3_0 cs3_1 cs3_2 fs3_0 fs3_1 fs3_2
      all_goals
        have nn : w1.heap.size ≠ w.heap.size := by omega
        have nn2 := nn.symm
        go_wp2_with (fail)
        refine bodyPost_ret (v := .tuple #[.agg #[.int .i64 cg.free, .int .i64 cg.limit, .slice (some ⟨bb, off, none⟩) cg.q.length pg2], .int .i64 z.1]) (by simp [results, Try.results40, go_sem, cres4_0, cres4_1, cres4_2, lres4, cs4_0, cs4_1, cs4_2, ls4, nn, nn2]) rfl ⟨_, cg, _, rfl, (((Og_4.out.setB (w.heap.size) 0 Xres_4.out (by decide) (.int .i64 cg.free)).setB (w.heap.size) 1 (set_at (a := ⟨w.heap.size, 0, none⟩) Xres_4.out rfl rfl (.int .i64 cg.free)) (by decide) (.int .i64 cg.limit)).setB (w.heap.size) 2 (set_at (a := ⟨w.heap.size, 1, none⟩) (set_at (a := ⟨w.heap.size, 0, none⟩) Xres_4.out rfl rfl (.int .i64 cg.free)) rfl rfl (.int .i64 cg.limit)) (by decide) (.slice (some ⟨bb, off, none⟩) cg.q.length pg2)).mono (by first | omega | (simp only [szA, szS, szD, World.heap_drewN] at * <;> omega)) (by first | omega | (simp only [szA, szS, szD, World.heap_drewN] at * <;> omega)), HFG.out, (below_setAt (below_setAt (below_setAt (Dr.out B2.out A4.out (by omega)) (w.heap.size) 0 (by first | omega | (simp only [szA, szS, szD, World.heap_drewN] at * <;> omega)) (.int .i64 cg.free)) (w.heap.size) 1 (by first | omega | (simp only [szA, szS, szD, World.heap_drewN] at * <;> omega)) (.int .i64 cg.limit)) (w.heap.size) 2 (by first | omega | (simp only [szA, szS, szD, World.heap_drewN] at * <;> omega)) (.slice (some ⟨bb, off, none⟩) cg.q.length pg2))⟩
    · have e0 := decide_eq_false h0
      have nn : w1.heap.size ≠ w.heap.size := by omega
      have nn2 := nn.symm
      go_wp2_with (fail)
      refine bodyPost_ret (v := .tuple #[.agg #[.int .i64 cg.free, .int .i64 cg.limit, .slice ag2 cg.q.length pg2], .int .i64 y0]) (by simp [results, Try.results40, go_sem, cres3_0, cres3_1, cres3_2, lres3, cs3_0, cs3_1, cs3_2, ls3, nn, nn2]) rfl ⟨_, cg, _, rfl, (((Og_3.out.setB (w.heap.size) 0 Xres_3.out (by decide) (.int .i64 cg.free)).setB (w.heap.size) 1 (set_at (a := ⟨w.heap.size, 0, none⟩) Xres_3.out rfl rfl (.int .i64 cg.free)) (by decide) (.int .i64 cg.limit)).setB (w.heap.size) 2 (set_at (a := ⟨w.heap.size, 1, none⟩) (set_at (a := ⟨w.heap.size, 0, none⟩) Xres_3.out rfl rfl (.int .i64 cg.free)) rfl rfl (.int .i64 cg.limit)) (by decide) (.slice ag2 cg.q.length pg2)).mono (by first | omega | (simp only [szA, szS, szD, World.heap_drewN] at * <;> omega)) (by first | omega | (simp only [szA, szS, szD, World.heap_drewN] at * <;> omega)), HFG.out, (below_setAt (below_setAt (below_setAt (Dr.out B2.out A3.out (by omega)) (w.heap.size) 0 (by first | omega | (simp only [szA, szS, szD, World.heap_drewN] at * <;> omega)) (.int .i64 cg.free)) (w.heap.size) 1 (by first | omega | (simp only [szA, szS, szD, World.heap_drewN] at * <;> omega)) (.int .i64 cg.limit)) (w.heap.size) 2 (by first | omega | (simp only [szA, szS, szD, World.heap_drewN] at * <;> omega)) (.slice ag2 cg.q.length pg2))⟩
  · have d1 := len_eq (n := cg.q.length) (by omega)
    have d3 := decide_eq_false hq
    have nn : w1.heap.size ≠ w.heap.size := by omega
    have nn2 := nn.symm
    go_wp2_with (fail)
    refine bodyPost_ret (v := .tuple #[.agg #[.int .i64 cg.free, .int .i64 cg.limit, .slice ag2 cg.q.length pg2], .int .i64 y0]) (by simp [results, Try.results40, go_sem, cres2_0, cres2_1, cres2_2, lres2, cs2_0, cs2_1, cs2_2, ls2, nn, nn2]) rfl ⟨_, cg, _, rfl, (((Og_2.out.setB (w.heap.size) 0 Xres_2.out (by decide) (.int .i64 cg.free)).setB (w.heap.size) 1 (set_at (a := ⟨w.heap.size, 0, none⟩) Xres_2.out rfl rfl (.int .i64 cg.free)) (by decide) (.int .i64 cg.limit)).setB (w.heap.size) 2 (set_at (a := ⟨w.heap.size, 1, none⟩) (set_at (a := ⟨w.heap.size, 0, none⟩) Xres_2.out rfl rfl (.int .i64 cg.free)) rfl rfl (.int .i64 cg.limit)) (by decide) (.slice ag2 cg.q.length pg2)).mono (by first | omega | (simp only [szA, szS, szD, World.heap_drewN] at * <;> omega)) (by first | omega | (simp only [szA, szS, szD, World.heap_drewN] at * <;> omega)), HFG.out, (below_setAt (below_setAt (below_setAt (Dr.out B2.out A2.out (by omega)) (w.heap.size) 0 (by first | omega | (simp only [szA, szS, szD, World.heap_drewN] at * <;> omega)) (.int .i64 cg.free)) (w.heap.size) 1 (by first | omega | (simp only [szA, szS, szD, World.heap_drewN] at * <;> omega)) (.int .i64 cg.limit)) (w.heap.size) 2 (by first | omega | (simp only [szA, szS, szD, World.heap_drewN] at * <;> omega)) (.slice ag2 cg.q.length pg2))⟩
end Go.Proofs.Ytmmkbiljjhigfaa
