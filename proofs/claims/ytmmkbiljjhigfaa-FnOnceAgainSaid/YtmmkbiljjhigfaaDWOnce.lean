/- l2WrongOnce: one field may be made wrong (made by gen_wrong.py). -/
import Derived.Test.YtmmkbiljjhigfaaDrOnce
import Derived.Test.YtmmkbiljjhigfaaOnceEnter
import Derived.Test.YtmmkbiljjhigfaaStepFn
import Derived.Deep.RegionLaw
namespace Go.Proofs.Ytmmkbiljjhigfaa
open Go.RowKit
set_option linter.unusedSimpArgs false
set_option linter.unusedVariables false
set_option maxHeartbeats 8000000 in
theorem l2WrongOnce_calls (b N M : Nat) (v : Value) (c : OnceD) (w0 w : World) (h : Dr w0 b N w) (hN : N ≤ 900000) (hq : OnceRow w v c) (hf : OnceFew M c) (hM : M ≤ 1000) :
    Calls Try.prog 51 #[.pointer (some ⟨b, 0, none⟩), v] w (OncePost (M + 1) w b (N + 3)) := by
  have A0 := Lib.hid (Dr.start h.r); have hlt := h.r.lt; clear h
  have HP := Lib.hid hq
  obtain ⟨aP3, pP3, rfl, hq⟩ := hq
  clear hq
  have hf3 := hf; unfold OnceFew at hf3; clear hf
  go_enter Try.func51, Try.ntmps51
  go_wp2_with (fail)
  refine (l2Once_calls _ c _ (OnceRow.below HP.out (Below.alloc (Below.alloc (Below.refl _ _) (by first | omega | (simp only [szA, szS, szD, World.heap_drewN] at * <;> omega)) _) (by first | omega | (simp only [szA, szS, szD, World.heap_drewN] at * <;> omega)) _)) (by omega)).mono ?_
  rintro e w1 ⟨vu, rfl, ho_u, hb⟩
  have A1 := Lib.hid (Dr.below ((A0.out.alloc _).alloc _) hb)
  have Z1 := hb.size
  have N1 : w.heap.size + 2 ≤ w1.heap.size := (by first | exact Z1 | (simp only [szA, szS, szD] at Z1; omega))
  clear Z1
  have Xp_1 : Hid (w1.heap[w.heap.size]? = some (.cells #[.int .i64 c.state, .int .i64 c.owner, .int .i64 c.value, .slice aP3 c.waits.length pP3] 25 (0, 0))) := below_at hb (heap_up (heap_at' (n := w.heap.size) (by first | omega | (simp only [szA, szS, szD, World.heap_drewN] at * <;> omega))))
  have Xres_1 : Hid (w1.heap[w.heap.size + 1]? = some (.cells #[.int .i64 0, .int .i64 0, .int .i64 0, .slice none 0 0] 25 (0, 0))) := below_at hb (heap_at' (n := w.heap.size + 1) (by first | omega | (simp only [szA, szS, szD, World.heap_drewN] at * <;> omega)))
  obtain ⟨au3, pu3, rfl, ho3, hx3⟩ := ho_u
  have Ou3_1 := Lib.hid (Own.mono (base' := w.heap.size) ho3 (by first | omega | (simp only [szA, szS, szD, World.heap_drewN] at * <;> omega))); clear ho3 hx3
  clear hb
  obtain ⟨cp1_0, cp1_1, cp1_2, cp1_3, fp1_0, fp1_1, fp1_2, fp1_3⟩ := box4 Xp_1.out; have lp1 := heap_lt Xp_1.out
  obtain ⟨cres1_0, cres1_1, cres1_2, cres1_3, fres1_0, fres1_1, fres1_2, fres1_3⟩ := box4 Xres_1.out; have lres1 := heap_lt Xres_1.out
  have S1 : w.heap.size ≤ w1.heap.size := by omega
  go_wp2_with (fail)
  refine (pickD b N 20 w _ (A1.out.alloc _) (by omega) (by decide)).mono ?_
  rintro e w2 ⟨x, rfl, hx0, hx1, hd⟩
  have A2 := Lib.hid (Dr.then (A1.out.alloc _) hd)
  have Z2 := hd.size
  have N2 : w1.heap.size + 1 ≤ w2.heap.size := (by first | exact Z2 | (simp only [szA, szS, szD] at Z2; omega))
  clear Z2
  have Xres_2 := Lib.hid (hd.at_ (heap_up Xres_1.out) (by first | omega | (simp only [szA, szS, szD, World.heap_drewN] at * <;> omega)))
  have Xout_2 : Hid (w2.heap[w1.heap.size]? = some (.cells #[.int .i64 c.state, .int .i64 c.owner, .int .i64 c.value, .slice au3 c.waits.length pu3] 25 (0, 0))) := hd.at_ (heap_at' (n := w1.heap.size) (by first | omega | (simp only [szA, szS, szD, World.heap_drewN] at * <;> omega))) (by first | omega | (simp only [szA, szS, szD, World.heap_drewN] at * <;> omega))
  have Ou3_2 := Lib.hid ((Ou3_1.out.alloc _).past hd.g hlt)
  clear hd
  obtain ⟨cres2_0, cres2_1, cres2_2, cres2_3, fres2_0, fres2_1, fres2_2, fres2_3⟩ := box4 Xres_2.out; have lres2 := heap_lt Xres_2.out
  obtain ⟨cout2_0, cout2_1, cout2_2, cout2_3, fout2_0, fout2_1, fout2_2, fout2_3⟩ := box4 Xout_2.out; have lout2 := heap_lt Xout_2.out
  have S2 : w.heap.size ≤ w2.heap.size := by omega
  clear cp1_0 cp1_1 cp1_2 cp1_3 fp1_0 fp1_1 fp1_2 fp1_3 cres1_0 cres1_1 cres1_2 cres1_3 fres1_0 fres1_1 fres1_2 fres1_3
  have nn : w1.heap.size ≠ w.heap.size + 1 := by omega
  by_cases h0 : x = 0
  · subst h0
    go_wp2_with (fail)
    refine (numD b (N + 1) _ [3, -1, 0, 1, 2] w _ (A2.out.alloc _) (by omega) (lit_row _ (by decide) rfl rfl (by first | omega | (simp only [szA, szS, szD, World.heap_drewN] at * <;> omega))) (by decide) (by simp [Value.ownBlock]; omega)).mono ?_
    rintro e w3 ⟨y, rfl, hy, hd⟩
    have A3 := Lib.hid (Dr.then (A2.out.alloc _) hd)
    have Z3 := hd.size
    have N3 : w2.heap.size + 1 ≤ w3.heap.size := (by first | exact Z3 | (simp only [szA, szS, szD] at Z3; omega))
    clear Z3
    have Xres_3 := Lib.hid (hd.at_ (heap_up Xres_2.out) (by first | omega | (simp only [szA, szS, szD, World.heap_drewN] at * <;> omega)))
    have Xout_3 := Lib.hid (hd.at_ (heap_up Xout_2.out) (by first | omega | (simp only [szA, szS, szD, World.heap_drewN] at * <;> omega)))
    have Ou3_3 := Lib.hid ((Ou3_2.out.alloc _).past hd.g hlt)
    clear hd
    obtain ⟨cres3_0, cres3_1, cres3_2, cres3_3, fres3_0, fres3_1, fres3_2, fres3_3⟩ := box4 Xres_3.out; have lres3 := heap_lt Xres_3.out
    obtain ⟨cout3_0, cout3_1, cout3_2, cout3_3, fout3_0, fout3_1, fout3_2, fout3_3⟩ := box4 Xout_3.out; have lout3 := heap_lt Xout_3.out
    have S3 : w.heap.size ≤ w3.heap.size := by omega
    clear cres2_0 cres2_1 cres2_2 cres2_3 fres2_0 fres2_1 fres2_2 fres2_3 cout2_0 cout2_1 cout2_2 cout2_3 fout2_0 fout2_1 fout2_2 fout2_3
    have hyb : -1 ≤ y ∧ y ≤ 3 := by simp at hy; omega
    obtain ⟨hy0, hy1⟩ := hyb; clear hy
    go_wp2_with (fail)
    refine bodyPost_ret (v := .agg #[.int .i64 y, .int .i64 c.owner, .int .i64 c.value, .slice au3 c.waits.length pu3]) (by simp [results, Try.results51, go_sem, cres3_0, cres3_1, cres3_2, cres3_3, lres3, cout3_0, cout3_1, cout3_2, cout3_3, lout3, nn]) rfl ⟨_, ⟨y, c.owner, c.value, c.waits⟩, rfl, ?_, ?_, ?_⟩
    · exact OnceOwn.make (((((Ou3_3.out.setB (w1.heap.size) 0 Xout_3.out (by decide) (.int .i64 y)).setB (w.heap.size + 1) 0 (set_off (a := ⟨w1.heap.size, 0, none⟩) Xres_3.out (by first | omega | (simp only [szA, szS, szD, World.heap_drewN] at * <;> omega)) (.int .i64 y)) (by decide) (.int .i64 y)).setB (w.heap.size + 1) 1 (set_at (a := ⟨w.heap.size + 1, 0, none⟩) (set_off (a := ⟨w1.heap.size, 0, none⟩) Xres_3.out (by first | omega | (simp only [szA, szS, szD, World.heap_drewN] at * <;> omega)) (.int .i64 y)) rfl rfl (.int .i64 y)) (by decide) (.int .i64 c.owner)).setB (w.heap.size + 1) 2 (set_at (a := ⟨w.heap.size + 1, 1, none⟩) (set_at (a := ⟨w.heap.size + 1, 0, none⟩) (set_off (a := ⟨w1.heap.size, 0, none⟩) Xres_3.out (by first | omega | (simp only [szA, szS, szD, World.heap_drewN] at * <;> omega)) (.int .i64 y)) rfl rfl (.int .i64 y)) rfl rfl (.int .i64 c.owner)) (by decide) (.int .i64 c.value)).setB (w.heap.size + 1) 3 (set_at (a := ⟨w.heap.size + 1, 2, none⟩) (set_at (a := ⟨w.heap.size + 1, 1, none⟩) (set_at (a := ⟨w.heap.size + 1, 0, none⟩) (set_off (a := ⟨w1.heap.size, 0, none⟩) Xres_3.out (by first | omega | (simp only [szA, szS, szD, World.heap_drewN] at * <;> omega)) (.int .i64 y)) rfl rfl (.int .i64 y)) rfl rfl (.int .i64 c.owner)) rfl rfl (.int .i64 c.value)) (by decide) (.slice au3 c.waits.length pu3)) (Nat.le_refl _)
    · exact (by unfold OnceFew; first | omega | (simp only; omega))
    · exact Dr.mono (((((A3.out.set (a := ⟨w1.heap.size, 0, none⟩) (by first | omega | (simp only [szA, szS, szD, World.heap_drewN] at * <;> omega)) (.int .i64 y)).set (a := ⟨w.heap.size + 1, 0, none⟩) (by first | omega | (simp only [szA, szS, szD, World.heap_drewN] at * <;> omega)) (.int .i64 y)).set (a := ⟨w.heap.size + 1, 1, none⟩) (by first | omega | (simp only [szA, szS, szD, World.heap_drewN] at * <;> omega)) (.int .i64 c.owner)).set (a := ⟨w.heap.size + 1, 2, none⟩) (by first | omega | (simp only [szA, szS, szD, World.heap_drewN] at * <;> omega)) (.int .i64 c.value)).set (a := ⟨w.heap.size + 1, 3, none⟩) (by first | omega | (simp only [szA, szS, szD, World.heap_drewN] at * <;> omega)) (.slice au3 c.waits.length pu3)) (by omega)
  · have e0 : (x == 0) = false := beq_false_of_ne h0
    by_cases h1 : x = 1
    · subst h1
      go_wp2_with (fail)
      refine (numD b (N + 1) _ [6, -1, 1] w _ (A2.out.alloc _) (by omega) (lit_row _ (by decide) rfl rfl (by first | omega | (simp only [szA, szS, szD, World.heap_drewN] at * <;> omega))) (by decide) (by simp [Value.ownBlock]; omega)).mono ?_
      rintro e w3 ⟨y, rfl, hy, hd⟩
      have A3 := Lib.hid (Dr.then (A2.out.alloc _) hd)
      have Z3 := hd.size
      have N3 : w2.heap.size + 1 ≤ w3.heap.size := (by first | exact Z3 | (simp only [szA, szS, szD] at Z3; omega))
      clear Z3
      have Xres_3 := Lib.hid (hd.at_ (heap_up Xres_2.out) (by first | omega | (simp only [szA, szS, szD, World.heap_drewN] at * <;> omega)))
      have Xout_3 := Lib.hid (hd.at_ (heap_up Xout_2.out) (by first | omega | (simp only [szA, szS, szD, World.heap_drewN] at * <;> omega)))
      have Ou3_3 := Lib.hid ((Ou3_2.out.alloc _).past hd.g hlt)
      clear hd
      obtain ⟨cres3_0, cres3_1, cres3_2, cres3_3, fres3_0, fres3_1, fres3_2, fres3_3⟩ := box4 Xres_3.out; have lres3 := heap_lt Xres_3.out
      obtain ⟨cout3_0, cout3_1, cout3_2, cout3_3, fout3_0, fout3_1, fout3_2, fout3_3⟩ := box4 Xout_3.out; have lout3 := heap_lt Xout_3.out
      have S3 : w.heap.size ≤ w3.heap.size := by omega
      clear cres2_0 cres2_1 cres2_2 cres2_3 fres2_0 fres2_1 fres2_2 fres2_3 cout2_0 cout2_1 cout2_2 cout2_3 fout2_0 fout2_1 fout2_2 fout2_3
      have hyb : -1 ≤ y ∧ y ≤ 6 := by simp at hy; omega
      obtain ⟨hy0, hy1⟩ := hyb; clear hy
      go_wp2_with (fail)
      refine bodyPost_ret (v := .agg #[.int .i64 c.state, .int .i64 y, .int .i64 c.value, .slice au3 c.waits.length pu3]) (by simp [results, Try.results51, go_sem, cres3_0, cres3_1, cres3_2, cres3_3, lres3, cout3_0, cout3_1, cout3_2, cout3_3, lout3, nn]) rfl ⟨_, ⟨c.state, y, c.value, c.waits⟩, rfl, ?_, ?_, ?_⟩
      · exact OnceOwn.make (((((Ou3_3.out.setB (w1.heap.size) 1 Xout_3.out (by decide) (.int .i64 y)).setB (w.heap.size + 1) 0 (set_off (a := ⟨w1.heap.size, 1, none⟩) Xres_3.out (by first | omega | (simp only [szA, szS, szD, World.heap_drewN] at * <;> omega)) (.int .i64 y)) (by decide) (.int .i64 c.state)).setB (w.heap.size + 1) 1 (set_at (a := ⟨w.heap.size + 1, 0, none⟩) (set_off (a := ⟨w1.heap.size, 1, none⟩) Xres_3.out (by first | omega | (simp only [szA, szS, szD, World.heap_drewN] at * <;> omega)) (.int .i64 y)) rfl rfl (.int .i64 c.state)) (by decide) (.int .i64 y)).setB (w.heap.size + 1) 2 (set_at (a := ⟨w.heap.size + 1, 1, none⟩) (set_at (a := ⟨w.heap.size + 1, 0, none⟩) (set_off (a := ⟨w1.heap.size, 1, none⟩) Xres_3.out (by first | omega | (simp only [szA, szS, szD, World.heap_drewN] at * <;> omega)) (.int .i64 y)) rfl rfl (.int .i64 c.state)) rfl rfl (.int .i64 y)) (by decide) (.int .i64 c.value)).setB (w.heap.size + 1) 3 (set_at (a := ⟨w.heap.size + 1, 2, none⟩) (set_at (a := ⟨w.heap.size + 1, 1, none⟩) (set_at (a := ⟨w.heap.size + 1, 0, none⟩) (set_off (a := ⟨w1.heap.size, 1, none⟩) Xres_3.out (by first | omega | (simp only [szA, szS, szD, World.heap_drewN] at * <;> omega)) (.int .i64 y)) rfl rfl (.int .i64 c.state)) rfl rfl (.int .i64 y)) rfl rfl (.int .i64 c.value)) (by decide) (.slice au3 c.waits.length pu3)) (Nat.le_refl _)
      · exact (by unfold OnceFew; first | omega | (simp only; omega))
      · exact Dr.mono (((((A3.out.set (a := ⟨w1.heap.size, 1, none⟩) (by first | omega | (simp only [szA, szS, szD, World.heap_drewN] at * <;> omega)) (.int .i64 y)).set (a := ⟨w.heap.size + 1, 0, none⟩) (by first | omega | (simp only [szA, szS, szD, World.heap_drewN] at * <;> omega)) (.int .i64 c.state)).set (a := ⟨w.heap.size + 1, 1, none⟩) (by first | omega | (simp only [szA, szS, szD, World.heap_drewN] at * <;> omega)) (.int .i64 y)).set (a := ⟨w.heap.size + 1, 2, none⟩) (by first | omega | (simp only [szA, szS, szD, World.heap_drewN] at * <;> omega)) (.int .i64 c.value)).set (a := ⟨w.heap.size + 1, 3, none⟩) (by first | omega | (simp only [szA, szS, szD, World.heap_drewN] at * <;> omega)) (.slice au3 c.waits.length pu3)) (by omega)
    · have e1 : (x == 1) = false := beq_false_of_ne h1
      by_cases h2 : x = 2
      · subst h2
        go_wp2_with (fail)
        go_region_law (first
          | (refine step_fn rfl 68 #[.pointer (some ⟨b, 0, none⟩), .int .i64 8] (by simp [execOp, resolve, invoke, Act.eval, Act.put, go_sem]) ((pickD b (N + 1) 8 w _ (by exact (A2.out.drew)) (by omega) (by decide)).mono ?_); rintro e w3 ⟨y0, rfl, hy00, hy01, hd⟩; refine ⟨_, rfl, ?_⟩; have A3 := Lib.hid (Dr.then (A2.out.drew) hd); have Z3 := hd.size; have N3 : w2.heap.size ≤ w3.heap.size := (by first | exact Z3 | (simp only [szA, szS, szD] at Z3; omega)); clear Z3; have Xres_3 := Lib.hid (hd.at_ (heap_drew Xres_2.out) (by first | omega | (simp only [szA, szS, szD, World.heap_drewN] at * <;> omega))); have Xout_3 := Lib.hid (hd.at_ (heap_drew Xout_2.out) (by first | omega | (simp only [szA, szS, szD, World.heap_drewN] at * <;> omega))); have Ou3_3 := Lib.hid ((Own.drewN Ou3_2.out 1).past hd.g hlt); clear hd; obtain ⟨cres3_0, cres3_1, cres3_2, cres3_3, fres3_0, fres3_1, fres3_2, fres3_3⟩ := box4 Xres_3.out; have lres3 := heap_lt Xres_3.out; obtain ⟨cout3_0, cout3_1, cout3_2, cout3_3, fout3_0, fout3_1, fout3_2, fout3_3⟩ := box4 Xout_3.out; have lout3 := heap_lt Xout_3.out; have S3 : w.heap.size ≤ w3.heap.size := by omega)
          | (refine step_push _ encI_len encI_one rfl _ _ 23 rfl 3 _ 8 Try.underlying23 info_int rfl (by decide) w.heap.size (.slice au3 c.waits.length pu3) c.waits (by simp [Act.eval, Act.put]) (Ou3_3.out.alloc _) (by simp only [szA]; omega) (.slice (some ⟨w3.heap.size, 0, none⟩) 1 1) [y0] (by simp [Act.eval, Act.put]) (lit_int (heap_at w3 _)) (by simp) (by decide) (by simp only [List.length_cons, List.length_nil]; omega) ?_; intro ad4 cp4 w4 hown hg hat; have Xres_4 := Lib.hid (grown_at2 hg (heap_up Xres_3.out) (Ou3_3.out.ne Xres_3.out (by decide))); have Xout_4 := Lib.hid (grown_at2 hg (heap_up Xout_3.out) (Ou3_3.out.ne Xout_3.out (by decide))); have Ou3_4 := Lib.hid hown; have A4 := Lib.hid (Dr.own (A3.out.alloc _) hg (fun g e => Ou3_3.out.blk g e)); have N4 : w3.heap.size + 1 ≤ w4.heap.size := (by first | exact hg.size | (have := hg.size; simp only [szA, szD] at this; omega)); clear hown hg hat; obtain ⟨cres4_0, cres4_1, cres4_2, cres4_3, fres4_0, fres4_1, fres4_2, fres4_3⟩ := box4 Xres_4.out; have lres4 := heap_lt Xres_4.out; obtain ⟨cout4_0, cout4_1, cout4_2, cout4_3, fout4_0, fout4_1, fout4_2, fout4_3⟩ := box4 Xout_4.out; have lout4 := heap_lt Xout_4.out; have S4 : w.heap.size ≤ w4.heap.size := by omega)
        )
        all_goals
          go_wp2_with (fail)
          refine bodyPost_ret (v := .agg #[.int .i64 c.state, .int .i64 c.owner, .int .i64 c.value, .slice ad4 (c.waits.length + 1) cp4]) (by simp [results, Try.results51, go_sem, cres4_0, cres4_1, cres4_2, cres4_3, lres4, cout4_0, cout4_1, cout4_2, cout4_3, lout4, nn]) rfl ⟨_, ⟨c.state, c.owner, c.value, (c.waits ++ [y0])⟩, rfl, ?_, ?_, ?_⟩
          · exact OnceOwn.make (((((Ou3_4.out.setB (w1.heap.size) 3 Xout_4.out (by decide) (.slice ad4 (c.waits.length + 1) cp4)).setB (w.heap.size + 1) 0 (set_off (a := ⟨w1.heap.size, 3, none⟩) Xres_4.out (by first | omega | (simp only [szA, szS, szD, World.heap_drewN] at * <;> omega)) (.slice ad4 (c.waits.length + 1) cp4)) (by decide) (.int .i64 c.state)).setB (w.heap.size + 1) 1 (set_at (a := ⟨w.heap.size + 1, 0, none⟩) (set_off (a := ⟨w1.heap.size, 3, none⟩) Xres_4.out (by first | omega | (simp only [szA, szS, szD, World.heap_drewN] at * <;> omega)) (.slice ad4 (c.waits.length + 1) cp4)) rfl rfl (.int .i64 c.state)) (by decide) (.int .i64 c.owner)).setB (w.heap.size + 1) 2 (set_at (a := ⟨w.heap.size + 1, 1, none⟩) (set_at (a := ⟨w.heap.size + 1, 0, none⟩) (set_off (a := ⟨w1.heap.size, 3, none⟩) Xres_4.out (by first | omega | (simp only [szA, szS, szD, World.heap_drewN] at * <;> omega)) (.slice ad4 (c.waits.length + 1) cp4)) rfl rfl (.int .i64 c.state)) rfl rfl (.int .i64 c.owner)) (by decide) (.int .i64 c.value)).setB (w.heap.size + 1) 3 (set_at (a := ⟨w.heap.size + 1, 2, none⟩) (set_at (a := ⟨w.heap.size + 1, 1, none⟩) (set_at (a := ⟨w.heap.size + 1, 0, none⟩) (set_off (a := ⟨w1.heap.size, 3, none⟩) Xres_4.out (by first | omega | (simp only [szA, szS, szD, World.heap_drewN] at * <;> omega)) (.slice ad4 (c.waits.length + 1) cp4)) rfl rfl (.int .i64 c.state)) rfl rfl (.int .i64 c.owner)) rfl rfl (.int .i64 c.value)) (by decide) (.slice ad4 (c.waits.length + 1) cp4)) (Nat.le_refl _)
          · exact (by unfold OnceFew; simp only [List.length_append, List.length_singleton]; omega)
          · exact Dr.mono (((((A4.out.set (a := ⟨w1.heap.size, 3, none⟩) (by first | omega | (simp only [szA, szS, szD, World.heap_drewN] at * <;> omega)) (.slice ad4 (c.waits.length + 1) cp4)).set (a := ⟨w.heap.size + 1, 0, none⟩) (by first | omega | (simp only [szA, szS, szD, World.heap_drewN] at * <;> omega)) (.int .i64 c.state)).set (a := ⟨w.heap.size + 1, 1, none⟩) (by first | omega | (simp only [szA, szS, szD, World.heap_drewN] at * <;> omega)) (.int .i64 c.owner)).set (a := ⟨w.heap.size + 1, 2, none⟩) (by first | omega | (simp only [szA, szS, szD, World.heap_drewN] at * <;> omega)) (.int .i64 c.value)).set (a := ⟨w.heap.size + 1, 3, none⟩) (by first | omega | (simp only [szA, szS, szD, World.heap_drewN] at * <;> omega)) (.slice ad4 (c.waits.length + 1) cp4)) (by omega)
      · have e2 : (x == 2) = false := beq_false_of_ne h2
        by_cases h3 : x = 3
        · subst h3
          go_wp2_with (fail)
          refine (numD b (N + 1) _ [100, -1, 5] w _ (A2.out.alloc _) (by omega) (lit_row _ (by decide) rfl rfl (by first | omega | (simp only [szA, szS, szD, World.heap_drewN] at * <;> omega))) (by decide) (by simp [Value.ownBlock]; omega)).mono ?_
          rintro e w3 ⟨y, rfl, hy, hd⟩
          have A3 := Lib.hid (Dr.then (A2.out.alloc _) hd)
          have Z3 := hd.size
          have N3 : w2.heap.size + 1 ≤ w3.heap.size := (by first | exact Z3 | (simp only [szA, szS, szD] at Z3; omega))
          clear Z3
          have Xres_3 := Lib.hid (hd.at_ (heap_up Xres_2.out) (by first | omega | (simp only [szA, szS, szD, World.heap_drewN] at * <;> omega)))
          have Xout_3 := Lib.hid (hd.at_ (heap_up Xout_2.out) (by first | omega | (simp only [szA, szS, szD, World.heap_drewN] at * <;> omega)))
          have Ou3_3 := Lib.hid ((Ou3_2.out.alloc _).past hd.g hlt)
          clear hd
          obtain ⟨cres3_0, cres3_1, cres3_2, cres3_3, fres3_0, fres3_1, fres3_2, fres3_3⟩ := box4 Xres_3.out; have lres3 := heap_lt Xres_3.out
          obtain ⟨cout3_0, cout3_1, cout3_2, cout3_3, fout3_0, fout3_1, fout3_2, fout3_3⟩ := box4 Xout_3.out; have lout3 := heap_lt Xout_3.out
          have S3 : w.heap.size ≤ w3.heap.size := by omega
          clear cres2_0 cres2_1 cres2_2 cres2_3 fres2_0 fres2_1 fres2_2 fres2_3 cout2_0 cout2_1 cout2_2 cout2_3 fout2_0 fout2_1 fout2_2 fout2_3
          have hyb : -1 ≤ y ∧ y ≤ 100 := by simp at hy; omega
          obtain ⟨hy0, hy1⟩ := hyb; clear hy
          go_wp2_with (fail)
          refine bodyPost_ret (v := .agg #[.int .i64 c.state, .int .i64 c.owner, .int .i64 y, .slice au3 c.waits.length pu3]) (by simp [results, Try.results51, go_sem, cres3_0, cres3_1, cres3_2, cres3_3, lres3, cout3_0, cout3_1, cout3_2, cout3_3, lout3, nn]) rfl ⟨_, ⟨c.state, c.owner, y, c.waits⟩, rfl, ?_, ?_, ?_⟩
          · exact OnceOwn.make (((((Ou3_3.out.setB (w1.heap.size) 2 Xout_3.out (by decide) (.int .i64 y)).setB (w.heap.size + 1) 0 (set_off (a := ⟨w1.heap.size, 2, none⟩) Xres_3.out (by first | omega | (simp only [szA, szS, szD, World.heap_drewN] at * <;> omega)) (.int .i64 y)) (by decide) (.int .i64 c.state)).setB (w.heap.size + 1) 1 (set_at (a := ⟨w.heap.size + 1, 0, none⟩) (set_off (a := ⟨w1.heap.size, 2, none⟩) Xres_3.out (by first | omega | (simp only [szA, szS, szD, World.heap_drewN] at * <;> omega)) (.int .i64 y)) rfl rfl (.int .i64 c.state)) (by decide) (.int .i64 c.owner)).setB (w.heap.size + 1) 2 (set_at (a := ⟨w.heap.size + 1, 1, none⟩) (set_at (a := ⟨w.heap.size + 1, 0, none⟩) (set_off (a := ⟨w1.heap.size, 2, none⟩) Xres_3.out (by first | omega | (simp only [szA, szS, szD, World.heap_drewN] at * <;> omega)) (.int .i64 y)) rfl rfl (.int .i64 c.state)) rfl rfl (.int .i64 c.owner)) (by decide) (.int .i64 y)).setB (w.heap.size + 1) 3 (set_at (a := ⟨w.heap.size + 1, 2, none⟩) (set_at (a := ⟨w.heap.size + 1, 1, none⟩) (set_at (a := ⟨w.heap.size + 1, 0, none⟩) (set_off (a := ⟨w1.heap.size, 2, none⟩) Xres_3.out (by first | omega | (simp only [szA, szS, szD, World.heap_drewN] at * <;> omega)) (.int .i64 y)) rfl rfl (.int .i64 c.state)) rfl rfl (.int .i64 c.owner)) rfl rfl (.int .i64 y)) (by decide) (.slice au3 c.waits.length pu3)) (Nat.le_refl _)
          · exact (by unfold OnceFew; first | omega | (simp only; omega))
          · exact Dr.mono (((((A3.out.set (a := ⟨w1.heap.size, 2, none⟩) (by first | omega | (simp only [szA, szS, szD, World.heap_drewN] at * <;> omega)) (.int .i64 y)).set (a := ⟨w.heap.size + 1, 0, none⟩) (by first | omega | (simp only [szA, szS, szD, World.heap_drewN] at * <;> omega)) (.int .i64 c.state)).set (a := ⟨w.heap.size + 1, 1, none⟩) (by first | omega | (simp only [szA, szS, szD, World.heap_drewN] at * <;> omega)) (.int .i64 c.owner)).set (a := ⟨w.heap.size + 1, 2, none⟩) (by first | omega | (simp only [szA, szS, szD, World.heap_drewN] at * <;> omega)) (.int .i64 y)).set (a := ⟨w.heap.size + 1, 3, none⟩) (by first | omega | (simp only [szA, szS, szD, World.heap_drewN] at * <;> omega)) (.slice au3 c.waits.length pu3)) (by omega)
        · have e3 : (x == 3) = false := beq_false_of_ne h3
          have e0' : decide (x = 0) = false := decide_eq_false h0
          have e1' : decide (x = 1) = false := decide_eq_false h1
          have e2' : decide (x = 2) = false := decide_eq_false h2
          have e3' : decide (x = 3) = false := decide_eq_false h3
          go_wp2_with (fail)
          refine bodyPost_ret (v := .agg #[.int .i64 c.state, .int .i64 c.owner, .int .i64 c.value, .slice au3 c.waits.length pu3]) (by simp [results, Try.results51, go_sem, cres2_0, cres2_1, cres2_2, cres2_3, lres2, cout2_0, cout2_1, cout2_2, cout2_3, lout2, nn]) rfl ⟨_, c, rfl, ?_, ?_, ?_⟩
          · exact OnceOwn.make ((((Ou3_2.out.setB (w.heap.size + 1) 0 Xres_2.out (by decide) (.int .i64 c.state)).setB (w.heap.size + 1) 1 (set_at (a := ⟨w.heap.size + 1, 0, none⟩) Xres_2.out rfl rfl (.int .i64 c.state)) (by decide) (.int .i64 c.owner)).setB (w.heap.size + 1) 2 (set_at (a := ⟨w.heap.size + 1, 1, none⟩) (set_at (a := ⟨w.heap.size + 1, 0, none⟩) Xres_2.out rfl rfl (.int .i64 c.state)) rfl rfl (.int .i64 c.owner)) (by decide) (.int .i64 c.value)).setB (w.heap.size + 1) 3 (set_at (a := ⟨w.heap.size + 1, 2, none⟩) (set_at (a := ⟨w.heap.size + 1, 1, none⟩) (set_at (a := ⟨w.heap.size + 1, 0, none⟩) Xres_2.out rfl rfl (.int .i64 c.state)) rfl rfl (.int .i64 c.owner)) rfl rfl (.int .i64 c.value)) (by decide) (.slice au3 c.waits.length pu3)) (Nat.le_refl _)
          · exact (by unfold OnceFew; first | omega | (simp only; omega))
          · exact Dr.mono ((((A2.out.set (a := ⟨w.heap.size + 1, 0, none⟩) (by first | omega | (simp only [szA, szS, szD, World.heap_drewN] at * <;> omega)) (.int .i64 c.state)).set (a := ⟨w.heap.size + 1, 1, none⟩) (by first | omega | (simp only [szA, szS, szD, World.heap_drewN] at * <;> omega)) (.int .i64 c.owner)).set (a := ⟨w.heap.size + 1, 2, none⟩) (by first | omega | (simp only [szA, szS, szD, World.heap_drewN] at * <;> omega)) (.int .i64 c.value)).set (a := ⟨w.heap.size + 1, 3, none⟩) (by first | omega | (simp only [szA, szS, szD, World.heap_drewN] at * <;> omega)) (.slice au3 c.waits.length pu3)) (by omega)
end Go.Proofs.Ytmmkbiljjhigfaa
