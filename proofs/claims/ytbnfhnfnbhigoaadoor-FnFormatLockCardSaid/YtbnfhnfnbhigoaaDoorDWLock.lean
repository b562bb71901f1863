/- l4Wrong: one field may be made wrong (made by gen_wrong.py). -/
import Derived.Test.YtbnfhnfnbhigoaaDoorLockCopy
import Derived.Test.YtbnfhnfnbhigoaaDoorStepFn
import Derived.Deep.RegionLaw
namespace Go.Proofs.YtbnfhnfnbhigoaaDoor
open Go.RowKit
set_option linter.unusedSimpArgs false
set_option linter.unusedVariables false
set_option maxHeartbeats 8000000 in
theorem l4Wrong_calls (b N M : Nat) (v : Value) (c : LockD) (w0 w : World) (h : Dr w0 b N w) (hN : N ≤ 900000) (hq : LockRow w v c) (hf : LockFew M c) (hM : M ≤ 1000) :
    Calls Tryd.prog 33 #[.pointer (some ⟨b, 0, none⟩), v] w (LockPost (M + 1) w b (N + 3)) := by
  have A0 := Lib.hid (Dr.start h.r); have hlt := h.r.lt; clear h
  have HP := Lib.hid hq
  obtain ⟨aP0, pP0, aP2, pP2, rfl, hq⟩ := hq
  clear hq
  obtain ⟨hf0, hf2⟩ := hf
  go_enter Tryd.func33, Tryd.ntmps33
  go_wp2_with (fail)
  refine (l4Copy_calls _ c _ (LockRow.below HP.out (Below.alloc (Below.alloc (Below.refl _ _) (by first | omega | (simp only [szA, szS, szD, World.heap_drewN] at * <;> omega)) _) (by first | omega | (simp only [szA, szS, szD, World.heap_drewN] at * <;> omega)) _)) (by omega)).mono ?_
  rintro e w1 ⟨vu, rfl, ho_u, hb⟩
  have A1 := Lib.hid (Dr.below ((A0.out.alloc _).alloc _) hb)
  have Z1 := hb.size
  have N1 : w.heap.size + 2 ≤ w1.heap.size := (by first | with_reducible exact Z1 | (simp only [szA, szS, szD] at Z1; omega))
  clear Z1
  have Xp_1 : Hid (w1.heap[w.heap.size]? = some (.cells #[.slice aP0 c.readers.length pP0, .int .i64 c.writer, .slice aP2 c.q.length pP2] 30 (0, 0))) := below_at hb (heap_up (heap_at' (n := w.heap.size) (by first | omega | (simp only [szA, szS, szD, World.heap_drewN] at * <;> omega))))
  have Xres_1 : Hid (w1.heap[w.heap.size + 1]? = some (.cells #[.slice none 0 0, .int .i64 0, .slice none 0 0] 30 (0, 0))) := below_at hb (heap_at' (n := w.heap.size + 1) (by first | omega | (simp only [szA, szS, szD, World.heap_drewN] at * <;> omega)))
  obtain ⟨au0, pu0, au2, pu2, rfl, ho0, hx0, ho2, hx2⟩ := ho_u
  have Ou0_1 := Lib.hid (Own.mono (base' := w.heap.size) ho0 (by first | omega | (simp only [szA, szS, szD, World.heap_drewN] at * <;> omega))); clear ho0 hx0
  have Ou2_1 := Lib.hid (Own.mono (base' := w.heap.size) ho2 (by first | omega | (simp only [szA, szS, szD, World.heap_drewN] at * <;> omega))); clear ho2 hx2
  clear hb
  obtain ⟨cp1_0, cp1_1, cp1_2, fp1_0, fp1_1, fp1_2⟩ := box3 Xp_1.out; have lp1 := heap_lt Xp_1.out
  obtain ⟨cres1_0, cres1_1, cres1_2, fres1_0, fres1_1, fres1_2⟩ := box3 Xres_1.out; have lres1 := heap_lt Xres_1.out
  have S1 : w.heap.size ≤ w1.heap.size := (by omega)
  go_wp2_with (fail)
  refine (pickD b N 20 w _ (A1.out.alloc _) (by omega) (by decide)).mono ?_
  rintro e w2 ⟨x, rfl, hx0, hx1, hd⟩
  have A2 := Lib.hid (Dr.then (A1.out.alloc _) hd)
  have Z2 := hd.size
  have N2 : w1.heap.size + 1 ≤ w2.heap.size := (by first | with_reducible exact Z2 | (simp only [szA, szS, szD] at Z2; omega))
  clear Z2
  have Xres_2 := Lib.hid (hd.at_ (heap_up Xres_1.out) (by first | omega | (simp only [szA, szS, szD, World.heap_drewN] at * <;> omega)))
  have Xout_2 : Hid (w2.heap[w1.heap.size]? = some (.cells #[.slice au0 c.readers.length pu0, .int .i64 c.writer, .slice au2 c.q.length pu2] 30 (0, 0))) := hd.at_ (heap_at' (n := w1.heap.size) (by first | omega | (simp only [szA, szS, szD, World.heap_drewN] at * <;> omega))) (by first | omega | (simp only [szA, szS, szD, World.heap_drewN] at * <;> omega))
  have Ou0_2 := Lib.hid ((Ou0_1.out.alloc _).past hd.g hlt)
  have Ou2_2 := Lib.hid ((Ou2_1.out.alloc _).past hd.g hlt)
  clear hd
  obtain ⟨cres2_0, cres2_1, cres2_2, fres2_0, fres2_1, fres2_2⟩ := box3 Xres_2.out; have lres2 := heap_lt Xres_2.out
  obtain ⟨cout2_0, cout2_1, cout2_2, fout2_0, fout2_1, fout2_2⟩ := box3 Xout_2.out; have lout2 := heap_lt Xout_2.out
  have S2 : w.heap.size ≤ w2.heap.size := (by omega)
  clear cp1_0 cp1_1 cp1_2 fp1_0 fp1_1 fp1_2 cres1_0 cres1_1 cres1_2 fres1_0 fres1_1 fres1_2
  have nn : w1.heap.size ≠ w.heap.size + 1 := by omega
  by_cases h0 : x = 0
  · subst h0
    go_wp2_with (fail)
    refine (numD b (N + 1) _ [-2, 6, 0, -1] w _ (A2.out.alloc _) (by omega) (lit_row _ (by decide) rfl rfl (by first | omega | (simp only [szA, szS, szD, World.heap_drewN] at * <;> omega))) (by decide) (by simp [Value.ownBlock]; omega)).mono ?_
    rintro e w3 ⟨y, rfl, hy, hd⟩
    have A3 := Lib.hid (Dr.then (A2.out.alloc _) hd)
    have Z3 := hd.size
    have N3 : w2.heap.size + 1 ≤ w3.heap.size := (by first | with_reducible exact Z3 | (simp only [szA, szS, szD] at Z3; omega))
    clear Z3
    have Xres_3 := Lib.hid (hd.at_ (heap_up Xres_2.out) (by first | omega | (simp only [szA, szS, szD, World.heap_drewN] at * <;> omega)))
    have Xout_3 := Lib.hid (hd.at_ (heap_up Xout_2.out) (by first | omega | (simp only [szA, szS, szD, World.heap_drewN] at * <;> omega)))
    have Ou0_3 := Lib.hid ((Ou0_2.out.alloc _).past hd.g hlt)
    have Ou2_3 := Lib.hid ((Ou2_2.out.alloc _).past hd.g hlt)
    clear hd
    obtain ⟨cres3_0, cres3_1, cres3_2, fres3_0, fres3_1, fres3_2⟩ := box3 Xres_3.out; have lres3 := heap_lt Xres_3.out
    obtain ⟨cout3_0, cout3_1, cout3_2, fout3_0, fout3_1, fout3_2⟩ := box3 Xout_3.out; have lout3 := heap_lt Xout_3.out
    have S3 : w.heap.size ≤ w3.heap.size := (by omega)
    clear cres2_0 cres2_1 cres2_2 fres2_0 fres2_1 fres2_2 cout2_0 cout2_1 cout2_2 fout2_0 fout2_1 fout2_2
    have hyb : -2 ≤ y ∧ y ≤ 6 := by simp at hy; omega
    obtain ⟨hy0, hy1⟩ := hyb; clear hy
    go_wp2_with (fail)
    refine bodyPost_ret (v := .agg #[.slice au0 c.readers.length pu0, .int .i64 y, .slice au2 c.q.length pu2]) (by simp [results, Tryd.results33, go_sem, cres3_0, cres3_1, cres3_2, lres3, cout3_0, cout3_1, cout3_2, lout3, nn]) rfl ⟨_, ⟨c.readers, y, c.q⟩, rfl, ?_, ?_, ?_⟩
    · exact LockOwn.make ((((Ou0_3.out.setB (w1.heap.size) 1 Xout_3.out (by decide) (.int .i64 y)).setB (w.heap.size + 1) 0 (set_off (a := ⟨w1.heap.size, 1, none⟩) Xres_3.out (by first | omega | (simp only [szA, szS, szD, World.heap_drewN] at * <;> omega)) (.int .i64 y)) (by decide) (.slice au0 c.readers.length pu0)).setB (w.heap.size + 1) 1 (set_at (a := ⟨w.heap.size + 1, 0, none⟩) (set_off (a := ⟨w1.heap.size, 1, none⟩) Xres_3.out (by first | omega | (simp only [szA, szS, szD, World.heap_drewN] at * <;> omega)) (.int .i64 y)) rfl rfl (.slice au0 c.readers.length pu0)) (by decide) (.int .i64 y)).setB (w.heap.size + 1) 2 (set_at (a := ⟨w.heap.size + 1, 1, none⟩) (set_at (a := ⟨w.heap.size + 1, 0, none⟩) (set_off (a := ⟨w1.heap.size, 1, none⟩) Xres_3.out (by first | omega | (simp only [szA, szS, szD, World.heap_drewN] at * <;> omega)) (.int .i64 y)) rfl rfl (.slice au0 c.readers.length pu0)) rfl rfl (.int .i64 y)) (by decide) (.slice au2 c.q.length pu2)) ((((Ou2_3.out.setB (w1.heap.size) 1 Xout_3.out (by decide) (.int .i64 y)).setB (w.heap.size + 1) 0 (set_off (a := ⟨w1.heap.size, 1, none⟩) Xres_3.out (by first | omega | (simp only [szA, szS, szD, World.heap_drewN] at * <;> omega)) (.int .i64 y)) (by decide) (.slice au0 c.readers.length pu0)).setB (w.heap.size + 1) 1 (set_at (a := ⟨w.heap.size + 1, 0, none⟩) (set_off (a := ⟨w1.heap.size, 1, none⟩) Xres_3.out (by first | omega | (simp only [szA, szS, szD, World.heap_drewN] at * <;> omega)) (.int .i64 y)) rfl rfl (.slice au0 c.readers.length pu0)) (by decide) (.int .i64 y)).setB (w.heap.size + 1) 2 (set_at (a := ⟨w.heap.size + 1, 1, none⟩) (set_at (a := ⟨w.heap.size + 1, 0, none⟩) (set_off (a := ⟨w1.heap.size, 1, none⟩) Xres_3.out (by first | omega | (simp only [szA, szS, szD, World.heap_drewN] at * <;> omega)) (.int .i64 y)) rfl rfl (.slice au0 c.readers.length pu0)) rfl rfl (.int .i64 y)) (by decide) (.slice au2 c.q.length pu2)) (Nat.le_refl _)
    · exact ⟨(by first | omega | (simp only; omega)), (by first | omega | (simp only; omega))⟩
    · exact Dr.mono ((((A3.out.set (a := ⟨w1.heap.size, 1, none⟩) (by first | omega | (simp only [szA, szS, szD, World.heap_drewN] at * <;> omega)) (.int .i64 y)).set (a := ⟨w.heap.size + 1, 0, none⟩) (by first | omega | (simp only [szA, szS, szD, World.heap_drewN] at * <;> omega)) (.slice au0 c.readers.length pu0)).set (a := ⟨w.heap.size + 1, 1, none⟩) (by first | omega | (simp only [szA, szS, szD, World.heap_drewN] at * <;> omega)) (.int .i64 y)).set (a := ⟨w.heap.size + 1, 2, none⟩) (by first | omega | (simp only [szA, szS, szD, World.heap_drewN] at * <;> omega)) (.slice au2 c.q.length pu2)) (by omega)
  · have e0 : (x == 0) = false := beq_false_of_ne h0
    by_cases h1 : x = 1
    · subst h1
      go_wp2_with (fail)
      go_region_law (first
        | (refine step_fn rfl 32 #[.pointer (some ⟨b, 0, none⟩), .int .i64 7] (by simp [execOp, resolve, invoke, Act.eval, Act.put, go_sem]) ((pickD b (N + 1) 7 w _ (by exact (A2.out.drew)) (by omega) (by decide)).mono ?_); rintro e w3 ⟨y0, rfl, hy00, hy01, hd⟩; refine ⟨_, rfl, ?_⟩; have A3 := Lib.hid (Dr.then (A2.out.drew) hd); have Z3 := hd.size; have N3 : w2.heap.size ≤ w3.heap.size := (by first | with_reducible exact Z3 | (simp only [szA, szS, szD] at Z3; omega)); clear Z3; have Xres_3 := Lib.hid (hd.at_ (heap_drew Xres_2.out) (by first | omega | (simp only [szA, szS, szD, World.heap_drewN] at * <;> omega))); have Xout_3 := Lib.hid (hd.at_ (heap_drew Xout_2.out) (by first | omega | (simp only [szA, szS, szD, World.heap_drewN] at * <;> omega))); have Ou0_3 := Lib.hid ((Own.drewN Ou0_2.out 1).past hd.g hlt); have Ou2_3 := Lib.hid ((Own.drewN Ou2_2.out 1).past hd.g hlt); clear hd; obtain ⟨cres3_0, cres3_1, cres3_2, fres3_0, fres3_1, fres3_2⟩ := box3 Xres_3.out; have lres3 := heap_lt Xres_3.out; obtain ⟨cout3_0, cout3_1, cout3_2, fout3_0, fout3_1, fout3_2⟩ := box3 Xout_3.out; have lout3 := heap_lt Xout_3.out; have S3 : w.heap.size ≤ w3.heap.size := (by omega))
        | (refine step_push _ encI_len encI_one rfl _ _ 22 rfl 3 _ 8 Tryd.underlying22 info_int rfl (by decide) w.heap.size (.slice au0 c.readers.length pu0) c.readers (by simp [Act.eval, Act.put]) (Ou0_3.out.alloc _) (by simp only [szA]; omega) (.slice (some ⟨w3.heap.size, 0, none⟩) 1 1) [y0] (by simp [Act.eval, Act.put]) (lit_int (heap_at w3 _)) (by simp) (by decide) (by simp only [List.length_cons, List.length_nil]; omega) ?_; intro ad4 cp4 w4 hown hg hat; have Xres_4 := Lib.hid (grown_at2 hg (heap_up Xres_3.out) (Ou0_3.out.ne Xres_3.out (by decide))); have Xout_4 := Lib.hid (grown_at2 hg (heap_up Xout_3.out) (Ou0_3.out.ne Xout_3.out (by decide))); have Ou2_4 := Lib.hid ((Ou2_3.out.alloc _).apart hg (Own.apart_types Ou0_3.out Ou2_3.out (by decide))); have Ou0_4 := Lib.hid hown; have A4 := Lib.hid (Dr.own (A3.out.alloc _) hg (fun g e => Ou0_3.out.blk g e)); have N4 : w3.heap.size + 1 ≤ w4.heap.size := (by first | exact hg.size | (have := hg.size; simp only [szA, szD] at this; omega)); clear hown hg hat; obtain ⟨cres4_0, cres4_1, cres4_2, fres4_0, fres4_1, fres4_2⟩ := box3 Xres_4.out; have lres4 := heap_lt Xres_4.out; obtain ⟨cout4_0, cout4_1, cout4_2, fout4_0, fout4_1, fout4_2⟩ := box3 Xout_4.out; have lout4 := heap_lt Xout_4.out; have S4 : w.heap.size ≤ w4.heap.size := by omega)
      )
      all_goals
        go_wp2_with (fail)
        refine bodyPost_ret (v := .agg #[.slice ad4 (c.readers.length + 1) cp4, .int .i64 c.writer, .slice au2 c.q.length pu2]) (by simp [results, Tryd.results33, go_sem, cres4_0, cres4_1, cres4_2, lres4, cout4_0, cout4_1, cout4_2, lout4, nn]) rfl ⟨_, ⟨(c.readers ++ [y0]), c.writer, c.q⟩, rfl, ?_, ?_, ?_⟩
        · exact LockOwn.make ((((Ou0_4.out.setB (w1.heap.size) 0 Xout_4.out (by decide) (.slice ad4 (c.readers.length + 1) cp4)).setB (w.heap.size + 1) 0 (set_off (a := ⟨w1.heap.size, 0, none⟩) Xres_4.out (by first | omega | (simp only [szA, szS, szD, World.heap_drewN] at * <;> omega)) (.slice ad4 (c.readers.length + 1) cp4)) (by decide) (.slice ad4 (c.readers.length + 1) cp4)).setB (w.heap.size + 1) 1 (set_at (a := ⟨w.heap.size + 1, 0, none⟩) (set_off (a := ⟨w1.heap.size, 0, none⟩) Xres_4.out (by first | omega | (simp only [szA, szS, szD, World.heap_drewN] at * <;> omega)) (.slice ad4 (c.readers.length + 1) cp4)) rfl rfl (.slice ad4 (c.readers.length + 1) cp4)) (by decide) (.int .i64 c.writer)).setB (w.heap.size + 1) 2 (set_at (a := ⟨w.heap.size + 1, 1, none⟩) (set_at (a := ⟨w.heap.size + 1, 0, none⟩) (set_off (a := ⟨w1.heap.size, 0, none⟩) Xres_4.out (by first | omega | (simp only [szA, szS, szD, World.heap_drewN] at * <;> omega)) (.slice ad4 (c.readers.length + 1) cp4)) rfl rfl (.slice ad4 (c.readers.length + 1) cp4)) rfl rfl (.int .i64 c.writer)) (by decide) (.slice au2 c.q.length pu2)) ((((Ou2_4.out.setB (w1.heap.size) 0 Xout_4.out (by decide) (.slice ad4 (c.readers.length + 1) cp4)).setB (w.heap.size + 1) 0 (set_off (a := ⟨w1.heap.size, 0, none⟩) Xres_4.out (by first | omega | (simp only [szA, szS, szD, World.heap_drewN] at * <;> omega)) (.slice ad4 (c.readers.length + 1) cp4)) (by decide) (.slice ad4 (c.readers.length + 1) cp4)).setB (w.heap.size + 1) 1 (set_at (a := ⟨w.heap.size + 1, 0, none⟩) (set_off (a := ⟨w1.heap.size, 0, none⟩) Xres_4.out (by first | omega | (simp only [szA, szS, szD, World.heap_drewN] at * <;> omega)) (.slice ad4 (c.readers.length + 1) cp4)) rfl rfl (.slice ad4 (c.readers.length + 1) cp4)) (by decide) (.int .i64 c.writer)).setB (w.heap.size + 1) 2 (set_at (a := ⟨w.heap.size + 1, 1, none⟩) (set_at (a := ⟨w.heap.size + 1, 0, none⟩) (set_off (a := ⟨w1.heap.size, 0, none⟩) Xres_4.out (by first | omega | (simp only [szA, szS, szD, World.heap_drewN] at * <;> omega)) (.slice ad4 (c.readers.length + 1) cp4)) rfl rfl (.slice ad4 (c.readers.length + 1) cp4)) rfl rfl (.int .i64 c.writer)) (by decide) (.slice au2 c.q.length pu2)) (Nat.le_refl _)
        · exact ⟨(by simp only [List.length_append, List.length_singleton]; omega), (by first | omega | (simp only; omega))⟩
        · exact Dr.mono ((((A4.out.set (a := ⟨w1.heap.size, 0, none⟩) (by first | omega | (simp only [szA, szS, szD, World.heap_drewN] at * <;> omega)) (.slice ad4 (c.readers.length + 1) cp4)).set (a := ⟨w.heap.size + 1, 0, none⟩) (by first | omega | (simp only [szA, szS, szD, World.heap_drewN] at * <;> omega)) (.slice ad4 (c.readers.length + 1) cp4)).set (a := ⟨w.heap.size + 1, 1, none⟩) (by first | omega | (simp only [szA, szS, szD, World.heap_drewN] at * <;> omega)) (.int .i64 c.writer)).set (a := ⟨w.heap.size + 1, 2, none⟩) (by first | omega | (simp only [szA, szS, szD, World.heap_drewN] at * <;> omega)) (.slice au2 c.q.length pu2)) (by omega)
    · have e1 : (x == 1) = false := beq_false_of_ne h1
      by_cases h2 : x = 2
      · subst h2
        go_wp2_with (fail)
        go_region_law (first
          | (refine step_fn rfl 32 #[.pointer (some ⟨b, 0, none⟩), .int .i64 7] (by simp [execOp, resolve, invoke, Act.eval, Act.put, go_sem]) ((pickD b (N + 1) 7 w _ (by exact (A2.out.drew)) (by omega) (by decide)).mono ?_); rintro e w3 ⟨y0, rfl, hy00, hy01, hd⟩; refine ⟨_, rfl, ?_⟩; have A3 := Lib.hid (Dr.then (A2.out.drew) hd); have Z3 := hd.size; have N3 : w2.heap.size ≤ w3.heap.size := (by first | with_reducible exact Z3 | (simp only [szA, szS, szD] at Z3; omega)); clear Z3; have Xres_3 := Lib.hid (hd.at_ (heap_drew Xres_2.out) (by first | omega | (simp only [szA, szS, szD, World.heap_drewN] at * <;> omega))); have Xout_3 := Lib.hid (hd.at_ (heap_drew Xout_2.out) (by first | omega | (simp only [szA, szS, szD, World.heap_drewN] at * <;> omega))); have Ou0_3 := Lib.hid ((Own.drewN Ou0_2.out 1).past hd.g hlt); have Ou2_3 := Lib.hid ((Own.drewN Ou2_2.out 1).past hd.g hlt); clear hd; obtain ⟨cres3_0, cres3_1, cres3_2, fres3_0, fres3_1, fres3_2⟩ := box3 Xres_3.out; have lres3 := heap_lt Xres_3.out; obtain ⟨cout3_0, cout3_1, cout3_2, fout3_0, fout3_1, fout3_2⟩ := box3 Xout_3.out; have lout3 := heap_lt Xout_3.out; have S3 : w.heap.size ≤ w3.heap.size := (by omega))
          | (refine step_push _ encW_len one_want rfl _ _ 28 rfl 45 _ 16 Tryd.underlying28 info_Want rfl (by decide) w.heap.size (.slice au2 c.q.length pu2) c.q (by simp [Act.eval, Act.put]) (Ou2_3.out.alloc _) (by simp only [szA]; omega) (.slice (some ⟨w3.heap.size, 0, none⟩) 1 1) [(y0, false)] (by simp [Act.eval, Act.put]) (lit_want (heap_at w3 _)) (by simp) (by decide) (by simp only [List.length_cons, List.length_nil]; omega) ?_; intro ad4 cp4 w4 hown hg hat; have Xres_4 := Lib.hid (grown_at2 hg (heap_up Xres_3.out) (Ou2_3.out.ne Xres_3.out (by decide))); have Xout_4 := Lib.hid (grown_at2 hg (heap_up Xout_3.out) (Ou2_3.out.ne Xout_3.out (by decide))); have Ou0_4 := Lib.hid ((Ou0_3.out.alloc _).apart hg (Own.apart_types Ou2_3.out Ou0_3.out (by decide))); have Ou2_4 := Lib.hid hown; have A4 := Lib.hid (Dr.own (A3.out.alloc _) hg (fun g e => Ou2_3.out.blk g e)); have N4 : w3.heap.size + 1 ≤ w4.heap.size := (by first | exact hg.size | (have := hg.size; simp only [szA, szD] at this; omega)); clear hown hg hat; obtain ⟨cres4_0, cres4_1, cres4_2, fres4_0, fres4_1, fres4_2⟩ := box3 Xres_4.out; have lres4 := heap_lt Xres_4.out; obtain ⟨cout4_0, cout4_1, cout4_2, fout4_0, fout4_1, fout4_2⟩ := box3 Xout_4.out; have lout4 := heap_lt Xout_4.out; have S4 : w.heap.size ≤ w4.heap.size := by omega)
        )
        all_goals
          go_wp2_with (fail)
          refine bodyPost_ret (v := .agg #[.slice au0 c.readers.length pu0, .int .i64 c.writer, .slice ad4 (c.q.length + 1) cp4]) (by simp [results, Tryd.results33, go_sem, cres4_0, cres4_1, cres4_2, lres4, cout4_0, cout4_1, cout4_2, lout4, nn]) rfl ⟨_, ⟨c.readers, c.writer, (c.q ++ [(y0, false)])⟩, rfl, ?_, ?_, ?_⟩
          · exact LockOwn.make ((((Ou0_4.out.setB (w1.heap.size) 2 Xout_4.out (by decide) (.slice ad4 (c.q.length + 1) cp4)).setB (w.heap.size + 1) 0 (set_off (a := ⟨w1.heap.size, 2, none⟩) Xres_4.out (by first | omega | (simp only [szA, szS, szD, World.heap_drewN] at * <;> omega)) (.slice ad4 (c.q.length + 1) cp4)) (by decide) (.slice au0 c.readers.length pu0)).setB (w.heap.size + 1) 1 (set_at (a := ⟨w.heap.size + 1, 0, none⟩) (set_off (a := ⟨w1.heap.size, 2, none⟩) Xres_4.out (by first | omega | (simp only [szA, szS, szD, World.heap_drewN] at * <;> omega)) (.slice ad4 (c.q.length + 1) cp4)) rfl rfl (.slice au0 c.readers.length pu0)) (by decide) (.int .i64 c.writer)).setB (w.heap.size + 1) 2 (set_at (a := ⟨w.heap.size + 1, 1, none⟩) (set_at (a := ⟨w.heap.size + 1, 0, none⟩) (set_off (a := ⟨w1.heap.size, 2, none⟩) Xres_4.out (by first | omega | (simp only [szA, szS, szD, World.heap_drewN] at * <;> omega)) (.slice ad4 (c.q.length + 1) cp4)) rfl rfl (.slice au0 c.readers.length pu0)) rfl rfl (.int .i64 c.writer)) (by decide) (.slice ad4 (c.q.length + 1) cp4)) ((((Ou2_4.out.setB (w1.heap.size) 2 Xout_4.out (by decide) (.slice ad4 (c.q.length + 1) cp4)).setB (w.heap.size + 1) 0 (set_off (a := ⟨w1.heap.size, 2, none⟩) Xres_4.out (by first | omega | (simp only [szA, szS, szD, World.heap_drewN] at * <;> omega)) (.slice ad4 (c.q.length + 1) cp4)) (by decide) (.slice au0 c.readers.length pu0)).setB (w.heap.size + 1) 1 (set_at (a := ⟨w.heap.size + 1, 0, none⟩) (set_off (a := ⟨w1.heap.size, 2, none⟩) Xres_4.out (by first | omega | (simp only [szA, szS, szD, World.heap_drewN] at * <;> omega)) (.slice ad4 (c.q.length + 1) cp4)) rfl rfl (.slice au0 c.readers.length pu0)) (by decide) (.int .i64 c.writer)).setB (w.heap.size + 1) 2 (set_at (a := ⟨w.heap.size + 1, 1, none⟩) (set_at (a := ⟨w.heap.size + 1, 0, none⟩) (set_off (a := ⟨w1.heap.size, 2, none⟩) Xres_4.out (by first | omega | (simp only [szA, szS, szD, World.heap_drewN] at * <;> omega)) (.slice ad4 (c.q.length + 1) cp4)) rfl rfl (.slice au0 c.readers.length pu0)) rfl rfl (.int .i64 c.writer)) (by decide) (.slice ad4 (c.q.length + 1) cp4)) (Nat.le_refl _)
          · exact ⟨(by first | omega | (simp only; omega)), (by simp only [List.length_append, List.length_singleton]; omega)⟩
          · exact Dr.mono ((((A4.out.set (a := ⟨w1.heap.size, 2, none⟩) (by first | omega | (simp only [szA, szS, szD, World.heap_drewN] at * <;> omega)) (.slice ad4 (c.q.length + 1) cp4)).set (a := ⟨w.heap.size + 1, 0, none⟩) (by first | omega | (simp only [szA, szS, szD, World.heap_drewN] at * <;> omega)) (.slice au0 c.readers.length pu0)).set (a := ⟨w.heap.size + 1, 1, none⟩) (by first | omega | (simp only [szA, szS, szD, World.heap_drewN] at * <;> omega)) (.int .i64 c.writer)).set (a := ⟨w.heap.size + 1, 2, none⟩) (by first | omega | (simp only [szA, szS, szD, World.heap_drewN] at * <;> omega)) (.slice ad4 (c.q.length + 1) cp4)) (by omega)
      · have e2 : (x == 2) = false := beq_false_of_ne h2
        have e0' : decide (x = 0) = false := decide_eq_false h0
        have e1' : decide (x = 1) = false := decide_eq_false h1
        have e2' : decide (x = 2) = false := decide_eq_false h2
        go_wp2_with (fail)
        refine bodyPost_ret (v := .agg #[.slice au0 c.readers.length pu0, .int .i64 c.writer, .slice au2 c.q.length pu2]) (by simp [results, Tryd.results33, go_sem, cres2_0, cres2_1, cres2_2, lres2, cout2_0, cout2_1, cout2_2, lout2, nn]) rfl ⟨_, c, rfl, ?_, ?_, ?_⟩
        · exact LockOwn.make (((Ou0_2.out.setB (w.heap.size + 1) 0 Xres_2.out (by decide) (.slice au0 c.readers.length pu0)).setB (w.heap.size + 1) 1 (set_at (a := ⟨w.heap.size + 1, 0, none⟩) Xres_2.out rfl rfl (.slice au0 c.readers.length pu0)) (by decide) (.int .i64 c.writer)).setB (w.heap.size + 1) 2 (set_at (a := ⟨w.heap.size + 1, 1, none⟩) (set_at (a := ⟨w.heap.size + 1, 0, none⟩) Xres_2.out rfl rfl (.slice au0 c.readers.length pu0)) rfl rfl (.int .i64 c.writer)) (by decide) (.slice au2 c.q.length pu2)) (((Ou2_2.out.setB (w.heap.size + 1) 0 Xres_2.out (by decide) (.slice au0 c.readers.length pu0)).setB (w.heap.size + 1) 1 (set_at (a := ⟨w.heap.size + 1, 0, none⟩) Xres_2.out rfl rfl (.slice au0 c.readers.length pu0)) (by decide) (.int .i64 c.writer)).setB (w.heap.size + 1) 2 (set_at (a := ⟨w.heap.size + 1, 1, none⟩) (set_at (a := ⟨w.heap.size + 1, 0, none⟩) Xres_2.out rfl rfl (.slice au0 c.readers.length pu0)) rfl rfl (.int .i64 c.writer)) (by decide) (.slice au2 c.q.length pu2)) (Nat.le_refl _)
        · exact ⟨(by first | omega | (simp only; omega)), (by first | omega | (simp only; omega))⟩
        · exact Dr.mono (((A2.out.set (a := ⟨w.heap.size + 1, 0, none⟩) (by first | omega | (simp only [szA, szS, szD, World.heap_drewN] at * <;> omega)) (.slice au0 c.readers.length pu0)).set (a := ⟨w.heap.size + 1, 1, none⟩) (by first | omega | (simp only [szA, szS, szD, World.heap_drewN] at * <;> omega)) (.int .i64 c.writer)).set (a := ⟨w.heap.size + 1, 2, none⟩) (by first | omega | (simp only [szA, szS, szD, World.heap_drewN] at * <;> omega)) (.slice au2 c.q.length pu2)) (by omega)
end Go.Proofs.YtbnfhnfnbhigoaaDoor
