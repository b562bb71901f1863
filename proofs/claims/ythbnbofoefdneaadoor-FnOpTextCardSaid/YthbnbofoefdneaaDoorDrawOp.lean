/- What is drawn for the laws on operations (made by gen_progdraw.py). -/
import Derived.Test.YthbnbofoefdneaaDoorParseProg
import Derived.Test.YthbnbofoefdneaaDoorDrawsOut
namespace Go.Proofs.YthbnbofoefdneaaDoor
open Go.RowKit
set_option linter.unusedSimpArgs false
set_option linter.unusedVariables false
def opSmall (x : OpT) : Prop := Kd x.1 ∧ (-3 ≤ x.2.1 ∧ x.2.1 ≤ 3) ∧ (-10 ≤ x.2.2 ∧ x.2.2 ≤ 100)
theorem opSmall.inB {x : OpT} (h : opSmall x) : InB x.1 ∧ InB x.2.1 ∧ InB x.2.2 := by
  unfold opSmall Kd at h; unfold InB; omega
theorem Own.lit1 {base g : Nat} {w : World} {y : Int} (hg : w.heap[g]? = some (.cells #[.int .i64 y] 3 (0, 0))) (hb : base ≤ g) : Own base 3 1 encI w (.slice (some ⟨g, 0, none⟩) [y].length 1) [y] :=
  Own.shut (cur := #[.int .i64 y]) rfl hb rfl hg (Nat.le_refl _) (by decide) rfl rfl
theorem Own.lit2 {base g : Nat} {w : World} {y z : Int} (hg : w.heap[g]? = some (.cells #[.int .i64 y, .int .i64 z] 3 (0, 0))) (hb : base ≤ g) : Own base 3 1 encI w (.slice (some ⟨g, 0, none⟩) [y, z].length 2) [y, z] :=
  Own.shut (cur := #[.int .i64 y, .int .i64 z]) rfl hb rfl hg (Nat.le_refl _) (by decide) rfl rfl
theorem of_calls (b N : Nat) (lv : Value) (xs : List ByteArray) (w0 w : World) (h : Dr w0 b N w) (hN : N ≤ 1000000) (hl : Row 1 encZ w lv xs) (hlen : 0 < xs.length ∧ xs.length ≤ 1000) (hne : lv.ownBlock ≠ some b) :
    Calls Tryd.prog 39 #[.pointer (some ⟨b, 0, none⟩), lv] w fun e w' => ∃ x : ByteArray, e = .returned (.string x) ∧ x ∈ xs ∧ Dr w b (N + 1) w' := by
  have HH := Lib.hid h; clear h
  have HNE := Lib.hid hne
  obtain ⟨a, c, rfl, l1, l2, l3⟩ := ZRow.look hl
  obtain ⟨hq, hlen⟩ := hlen
  obtain ⟨bb, off, rfl, hbb, hc⟩ := l3 hq
  clear l3 hne hl
  go_enter Tryd.func39, Tryd.ntmps39
  go_wp2_with (fail)
  refine (pickD b N _ w0 _ HH.out hN (by omega)).mono ?_
  rintro e w1 ⟨x, rfl, hx0, hx1, hd⟩
  have HD := Lib.hid hd; clear hd
  obtain ⟨k, rfl⟩ := Int.eq_ofNat_of_zero_le hx0
  have hk : k < xs.length := by omega
  obtain ⟨y, hy⟩ := get_ex hk
  have y0 := hc k y hy
  have y1 := HD.out.g.cell y0 (by intro e; exact HNE.out e)
  have HY := Lib.hid hy
  clear hy hc y0
  have hk1 : (k : Int) < (xs.length : Int) := by omega
  go_wp2
  go_ret
  exact ⟨_, rfl, get_mem HY.out, HD.out⟩
def samplesB : List ByteArray := [⟨#[115, 101, 109, 115, 32, 49, 10, 116, 104, 114, 101, 97, 100, 32, 97, 99, 113, 117, 105, 114, 101, 32, 48, 32, 49, 44, 32, 115, 97, 121, 32, 49, 44, 32, 114, 101, 108, 101, 97, 115, 101, 32, 48, 32, 49, 10, 116, 104, 114, 101, 97, 100, 32, 97, 99, 113, 117, 105, 114, 101, 32, 48, 32, 49, 44, 32, 115, 97, 121, 32, 50, 44, 32, 114, 101, 108, 101, 97, 115, 101, 32, 48, 32, 49, 10]⟩, ⟨#[115, 101, 109, 115, 32, 49, 32, 49, 10, 116, 104, 114, 101, 97, 100, 32, 97, 99, 113, 117, 105, 114, 101, 32, 48, 32, 49, 44, 32, 97, 99, 113, 117, 105, 114, 101, 32, 49, 32, 49, 44, 32, 114, 101, 108, 101, 97, 115, 101, 32, 49, 32, 49, 44, 32, 114, 101, 108, 101, 97, 115, 101, 32, 48, 32, 49, 10, 116, 104, 114, 101, 97, 100, 32, 97, 99, 113, 117, 105, 114, 101, 32, 49, 32, 49, 44, 32, 97, 99, 113, 117, 105, 114, 101, 32, 48, 32, 49, 44, 32, 114, 101, 108, 101, 97, 115, 101, 32, 48, 32, 49, 44, 32, 114, 101, 108, 101, 97, 115, 101, 32, 49, 32, 49, 10]⟩, ⟨#[103, 114, 111, 117, 112, 115, 32, 50, 10, 116, 104, 114, 101, 97, 100, 32, 115, 97, 121, 32, 49, 44, 32, 97, 100, 100, 32, 48, 32, 45, 49, 10, 116, 104, 114, 101, 97, 100, 32, 115, 97, 121, 32, 50, 44, 32, 97, 100, 100, 32, 48, 32, 45, 49, 10, 116, 104, 114, 101, 97, 100, 32, 119, 97, 105, 116, 32, 48, 44, 32, 115, 97, 121, 32, 51, 10]⟩, ⟨#[98, 97, 114, 114, 105, 101, 114, 115, 32, 50, 10, 116, 104, 114, 101, 97, 100, 32, 115, 97, 121, 32, 49, 44, 32, 97, 114, 114, 105, 118, 101, 32, 48, 44, 32, 115, 97, 121, 32, 50, 10, 116, 104, 114, 101, 97, 100, 32, 97, 114, 114, 105, 118, 101, 32, 48, 44, 32, 115, 97, 121, 32, 51, 10]⟩, ⟨#[114, 111, 111, 109, 115, 32, 48, 10, 116, 104, 114, 101, 97, 100, 32, 115, 101, 110, 100, 32, 48, 32, 55, 44, 32, 115, 97, 121, 32, 49, 10, 116, 104, 114, 101, 97, 100, 32, 103, 101, 116, 32, 48, 44, 32, 115, 97, 121, 32, 50, 10]⟩, ⟨#[116, 104, 114, 101, 97, 100, 32, 111, 110, 99, 101, 32, 48, 32, 53, 44, 32, 115, 97, 121, 32, 49, 10, 116, 104, 114, 101, 97, 100, 32, 111, 110, 99, 101, 32, 48, 32, 54, 44, 32, 115, 97, 121, 32, 50, 10]⟩, ⟨#[114, 111, 111, 109, 115, 32, 49, 10, 116, 104, 114, 101, 97, 100, 32, 115, 101, 110, 100, 32, 48, 32, 49, 44, 32, 115, 101, 110, 100, 32, 48, 32, 50, 44, 32, 99, 108, 111, 115, 101, 32, 48, 10, 116, 104, 114, 101, 97, 100, 32, 103, 101, 116, 32, 48, 44, 32, 103, 101, 116, 32, 48, 44, 32, 103, 101, 116, 32, 48, 10]⟩, ⟨#[103, 114, 111, 117, 112, 115, 32, 49, 10, 116, 104, 114, 101, 97, 100, 32, 97, 100, 100, 32, 48, 32, 45, 49, 44, 32, 97, 100, 100, 32, 48, 32, 45, 49, 10, 116, 104, 114, 101, 97, 100, 32, 119, 97, 105, 116, 32, 48, 10]⟩]
theorem samplesB_size : ∀ x ∈ samplesB, x.size ≤ 200 := by decide
set_option maxRecDepth 100000 in
theorem l6Samples_calls (w : World) : Calls Tryd.prog 40 #[] w fun e w' => ∃ v, e = .returned v ∧ Own w.heap.size 9 1 encZ w' v samplesB ∧ Below w.heap.size w w' := by
  go_enter Tryd.func40, Tryd.ntmps40
  go_wp2
  go_ret
  refine ⟨_, rfl, Own.shut (base := w.heap.size) (g := w.heap.size) (n := 8) (cap := 8) (cur := (samplesB.map Value.string).toArray) rfl (Nat.le_refl _) rfl ?_ (Nat.le_refl _) (by decide) rfl rfl, (Below.refl _ _).alloc (Nat.le_refl _) _⟩
  rw [heap_at]; rfl
set_option maxRecDepth 100000 in
set_option maxHeartbeats 16000000 in
theorem l6Op_calls (b N lo hi : Nat) (v : Value) (c : ProgD) (w0 w : World) (h : Dr w0 b N w) (hN : N ≤ 990000) (hp : ProgOwn lo hi w v c) (hlo : b < lo) :
    Calls Tryd.prog 26 #[.pointer (some ⟨b, 0, none⟩), v] w fun e w' => ∃ x, e = .returned (opv x) ∧ opSmall x ∧ Dr w b (N + 4) w' := by
  have hp0 := hp
  have A0 := Lib.hid (Dr.start h.r); have hlt := h.r.lt; clear h
  obtain ⟨aP0, pP0, aP1, pP1, aP2, pP2, aP3, pP3, aP4, pP4, rfl, hx_⟩ := hp0; clear hx_
  have OP_0 := Lib.hid hp; clear hp
  go_enter Tryd.func26, Tryd.ntmps26
  go_wp2_with (fail)
  refine (numD b N _ [1, 2, 3, 4, 5, 6, 7, 8, 9, 10, 1, 2, 3] w _ (((A0.out.alloc _).alloc _).alloc _) (by omega) (lit_row _ (by decide) rfl rfl (by first | omega | (simp only [szA, szS, szD, World.heap_drewN] at * <;> omega))) (by decide) (by simp [Value.ownBlock]; omega)).mono ?_
  rintro e w1 ⟨k, rfl, hk, hd⟩
  have A1 := Lib.hid (Dr.then (((A0.out.alloc _).alloc _).alloc _) hd)
  have Z1 := hd.size
  have N1 : w.heap.size + 3 ≤ w1.heap.size := (by first | with_reducible exact Z1 | (simp only [szA, szS, szD] at Z1; omega))
  clear Z1
  have Xp_1 : Hid (w1.heap[w.heap.size]? = some (.cells #[.slice aP0 c.sems.length pP0, .slice aP1 c.groups.length pP1, .slice aP2 c.barriers.length pP2, .slice aP3 c.rooms.length pP3, .slice aP4 c.threads.length pP4] 34 (0, 0))) := hd.at_ (heap_up (heap_up (heap_at' (n := w.heap.size) (by first | omega | (simp only [szA, szS, szD, World.heap_drewN] at * <;> omega))))) (by first | omega | (simp only [szA, szS, szD, World.heap_drewN] at * <;> omega))
  have Xres_1 : Hid (w1.heap[w.heap.size + 1]? = some (.cells #[.int .i64 0, .int .i64 0, .int .i64 0] 23 (0, 0))) := hd.at_ (heap_up (heap_at' (n := w.heap.size + 1) (by first | omega | (simp only [szA, szS, szD, World.heap_drewN] at * <;> omega)))) (by first | omega | (simp only [szA, szS, szD, World.heap_drewN] at * <;> omega))
  clear hd
  obtain ⟨cp1_0, cp1_1, cp1_2, cp1_3, cp1_4, fp1_0, fp1_1, fp1_2, fp1_3, fp1_4⟩ := box5 Xp_1.out; have lp1 := heap_lt Xp_1.out
  obtain ⟨cres1_0, cres1_1, cres1_2, fres1_0, fres1_1, fres1_2⟩ := box3 Xres_1.out; have lres1 := heap_lt Xres_1.out
  have S1 : w.heap.size ≤ w1.heap.size := (by omega)
  have hkb : 1 ≤ k ∧ k ≤ 10 := by simp at hk; omega
  obtain ⟨hk0, hk1⟩ := hkb; clear hk
  go_wp2_with (fail)
  refine (pickD b (N + 1) 3 w _ A1.out (by omega) (by decide)).mono ?_
  rintro e w2 ⟨on, rfl, hon0, hon1, hd⟩
  have A2 := Lib.hid (Dr.then A1.out hd)
  have Z2 := hd.size
  have N2 : w1.heap.size ≤ w2.heap.size := (by first | with_reducible exact Z2 | (simp only [szA, szS, szD] at Z2; omega))
  clear Z2
  have Xp_2 := Lib.hid (hd.at_ Xp_1.out (by first | omega | (simp only [szA, szS, szD, World.heap_drewN] at * <;> omega)))
  have Xres_2 := Lib.hid (hd.at_ Xres_1.out (by first | omega | (simp only [szA, szS, szD, World.heap_drewN] at * <;> omega)))
  clear hd
  obtain ⟨cp2_0, cp2_1, cp2_2, cp2_3, cp2_4, fp2_0, fp2_1, fp2_2, fp2_3, fp2_4⟩ := box5 Xp_2.out; have lp2 := heap_lt Xp_2.out
  obtain ⟨cres2_0, cres2_1, cres2_2, fres2_0, fres2_1, fres2_2⟩ := box3 Xres_2.out; have lres2 := heap_lt Xres_2.out
  have S2 : w.heap.size ≤ w2.heap.size := (by omega)
  clear cp1_0 cp1_1 cp1_2 cp1_3 cp1_4 fp1_0 fp1_1 fp1_2 fp1_3 fp1_4 cres1_0 cres1_1 cres1_2 fres1_0 fres1_1 fres1_2
  have hon : 0 ≤ on ∧ on ≤ 2 := by omega
  obtain ⟨hon0, hon2⟩ := hon; clear hon1
  by_cases hk : k = 1 ∨ k = 2 ∨ k = 3 ∨ k = 4 ∨ k = 5 ∨ k = 8
  · rcases hk with rfl | rfl | rfl | rfl | rfl | rfl
    · go_wp2_with (fail)
      refine (numD b (N + 2) _ [7, 1, 2, 99] w _ ((A2.out.alloc _).alloc _) (by omega) (lit_row _ (by decide) rfl rfl (by first | omega | (simp only [szA, szS, szD, World.heap_drewN] at * <;> omega))) (by decide) (by simp [Value.ownBlock]; omega)).mono ?_
      rintro e w3 ⟨ar, rfl, har, hd⟩
      have A3 := Lib.hid (Dr.then ((A2.out.alloc _).alloc _) hd)
      have Z3 := hd.size
      have N3 : w2.heap.size + 2 ≤ w3.heap.size := (by first | with_reducible exact Z3 | (simp only [szA, szS, szD] at Z3; omega))
      clear Z3
      have Xp_3 := Lib.hid (hd.at_ (heap_up (heap_up Xp_2.out)) (by first | omega | (simp only [szA, szS, szD, World.heap_drewN] at * <;> omega)))
      have Xres_3 := Lib.hid (hd.at_ (heap_up (heap_up Xres_2.out)) (by first | omega | (simp only [szA, szS, szD, World.heap_drewN] at * <;> omega)))
      have Xo_3 : Hid (w3.heap[w2.heap.size]? = some (.cells #[.int .i64 1, .int .i64 on, .int .i64 0] 23 (0, 0))) := hd.at_ (heap_up (heap_at' (n := w2.heap.size) (by first | omega | (simp only [szA, szS, szD, World.heap_drewN] at * <;> omega)))) (by first | omega | (simp only [szA, szS, szD, World.heap_drewN] at * <;> omega))
      clear hd
      obtain ⟨cp3_0, cp3_1, cp3_2, cp3_3, cp3_4, fp3_0, fp3_1, fp3_2, fp3_3, fp3_4⟩ := box5 Xp_3.out; have lp3 := heap_lt Xp_3.out
      obtain ⟨cres3_0, cres3_1, cres3_2, fres3_0, fres3_1, fres3_2⟩ := box3 Xres_3.out; have lres3 := heap_lt Xres_3.out
      obtain ⟨co3_0, co3_1, co3_2, fo3_0, fo3_1, fo3_2⟩ := box3 Xo_3.out; have lo3 := heap_lt Xo_3.out
      have S3 : w.heap.size ≤ w3.heap.size := (by omega)
      clear cp2_0 cp2_1 cp2_2 cp2_3 cp2_4 fp2_0 fp2_1 fp2_2 fp2_3 fp2_4 cres2_0 cres2_1 cres2_2 fres2_0 fres2_1 fres2_2
      have harb : 1 ≤ ar ∧ ar ≤ 99 := by simp at har; omega
      obtain ⟨har0, har1⟩ := harb; clear har
      cases hv : opB c (1, on, ar)
      · have HV := Lib.hid hv; clear hv
        go_wp2_with (fail)
        refine (sOpValidO _ c (1, on, ar) _ ((OP_0.out.past (A3.out.set (a := ⟨w2.heap.size, 2, none⟩) (by first | omega | (simp only [szA, szS, szD, World.heap_drewN] at * <;> omega)) (.int .i64 ar)).g hlo).row)).mono ?_
        rw [HV.out]
        rintro e w4 ⟨rfl, hb⟩
        have A4 := Lib.hid (Dr.below (A3.out.set (a := ⟨w2.heap.size, 2, none⟩) (by first | omega | (simp only [szA, szS, szD, World.heap_drewN] at * <;> omega)) (.int .i64 ar)) hb)
        have Z4 := hb.size
        have N4 : w3.heap.size ≤ w4.heap.size := (by first | with_reducible exact Z4 | (simp only [szA, szS, szD] at Z4; omega))
        clear Z4
        have Xp_4 := Lib.hid (below_at hb (set_off (a := ⟨w2.heap.size, 2, none⟩) Xp_3.out (by first | omega | (simp only [szA, szS, szD, World.heap_drewN] at * <;> omega)) (.int .i64 ar)))
        have Xres_4 := Lib.hid (below_at hb (set_off (a := ⟨w2.heap.size, 2, none⟩) Xres_3.out (by first | omega | (simp only [szA, szS, szD, World.heap_drewN] at * <;> omega)) (.int .i64 ar)))
        have Xo_4 := Lib.hid (below_at hb (set_at (a := ⟨w2.heap.size, 2, none⟩) Xo_3.out rfl rfl (.int .i64 ar)))
        clear hb
        obtain ⟨cp4_0, cp4_1, cp4_2, cp4_3, cp4_4, fp4_0, fp4_1, fp4_2, fp4_3, fp4_4⟩ := box5 Xp_4.out; have lp4 := heap_lt Xp_4.out
        obtain ⟨cres4_0, cres4_1, cres4_2, fres4_0, fres4_1, fres4_2⟩ := box3 Xres_4.out; have lres4 := heap_lt Xres_4.out
        obtain ⟨co4_0, co4_1, co4_2, fo4_0, fo4_1, fo4_2⟩ := box3 Xo_4.out; have lo4 := heap_lt Xo_4.out
        have S4 : w.heap.size ≤ w4.heap.size := (by omega)
        clear cp3_0 cp3_1 cp3_2 cp3_3 cp3_4 fp3_0 fp3_1 fp3_2 fp3_3 fp3_4 cres3_0 cres3_1 cres3_2 fres3_0 fres3_1 fres3_2 co3_0 co3_1 co3_2 fo3_0 fo3_1 fo3_2
        cases hv : opB c (1, 0, ar)
        · have HV := Lib.hid hv; clear hv
          go_wp2_with (fail)
          refine (sOpValidO _ c (1, 0, ar) _ ((OP_0.out.past (A4.out.set (a := ⟨w2.heap.size, 1, none⟩) (by first | omega | (simp only [szA, szS, szD, World.heap_drewN] at * <;> omega)) (.int .i64 0)).g hlo).row)).mono ?_
          rw [HV.out]
          rintro e w5 ⟨rfl, hb⟩
          have A5 := Lib.hid (Dr.below (A4.out.set (a := ⟨w2.heap.size, 1, none⟩) (by first | omega | (simp only [szA, szS, szD, World.heap_drewN] at * <;> omega)) (.int .i64 0)) hb)
          have Z5 := hb.size
          have N5 : w4.heap.size ≤ w5.heap.size := (by first | with_reducible exact Z5 | (simp only [szA, szS, szD] at Z5; omega))
          clear Z5
          have Xp_5 := Lib.hid (below_at hb (set_off (a := ⟨w2.heap.size, 1, none⟩) Xp_4.out (by first | omega | (simp only [szA, szS, szD, World.heap_drewN] at * <;> omega)) (.int .i64 0)))
          have Xres_5 := Lib.hid (below_at hb (set_off (a := ⟨w2.heap.size, 1, none⟩) Xres_4.out (by first | omega | (simp only [szA, szS, szD, World.heap_drewN] at * <;> omega)) (.int .i64 0)))
          have Xo_5 := Lib.hid (below_at hb (set_at (a := ⟨w2.heap.size, 1, none⟩) Xo_4.out rfl rfl (.int .i64 0)))
          clear hb
          obtain ⟨cp5_0, cp5_1, cp5_2, cp5_3, cp5_4, fp5_0, fp5_1, fp5_2, fp5_3, fp5_4⟩ := box5 Xp_5.out; have lp5 := heap_lt Xp_5.out
          obtain ⟨cres5_0, cres5_1, cres5_2, fres5_0, fres5_1, fres5_2⟩ := box3 Xres_5.out; have lres5 := heap_lt Xres_5.out
          obtain ⟨co5_0, co5_1, co5_2, fo5_0, fo5_1, fo5_2⟩ := box3 Xo_5.out; have lo5 := heap_lt Xo_5.out
          have S5 : w.heap.size ≤ w5.heap.size := (by omega)
          clear cp4_0 cp4_1 cp4_2 cp4_3 cp4_4 fp4_0 fp4_1 fp4_2 fp4_3 fp4_4 cres4_0 cres4_1 cres4_2 fres4_0 fres4_1 fres4_2 co4_0 co4_1 co4_2 fo4_0 fo4_1 fo4_2
          go_wp2_with (fail)
          refine (pickD b (N + 3) 9 w _ A5.out (by omega) (by decide)).mono ?_
          rintro e w6 ⟨ag, rfl, hag0, hag1, hd⟩
          have A6 := Lib.hid (Dr.then A5.out hd)
          have Z6 := hd.size
          have N6 : w5.heap.size ≤ w6.heap.size := (by first | with_reducible exact Z6 | (simp only [szA, szS, szD] at Z6; omega))
          clear Z6
          have Xp_6 := Lib.hid (hd.at_ Xp_5.out (by first | omega | (simp only [szA, szS, szD, World.heap_drewN] at * <;> omega)))
          have Xres_6 := Lib.hid (hd.at_ Xres_5.out (by first | omega | (simp only [szA, szS, szD, World.heap_drewN] at * <;> omega)))
          have Xo_6 := Lib.hid (hd.at_ Xo_5.out (by first | omega | (simp only [szA, szS, szD, World.heap_drewN] at * <;> omega)))
          clear hd
          obtain ⟨cp6_0, cp6_1, cp6_2, cp6_3, cp6_4, fp6_0, fp6_1, fp6_2, fp6_3, fp6_4⟩ := box5 Xp_6.out; have lp6 := heap_lt Xp_6.out
          obtain ⟨cres6_0, cres6_1, cres6_2, fres6_0, fres6_1, fres6_2⟩ := box3 Xres_6.out; have lres6 := heap_lt Xres_6.out
          obtain ⟨co6_0, co6_1, co6_2, fo6_0, fo6_1, fo6_2⟩ := box3 Xo_6.out; have lo6 := heap_lt Xo_6.out
          have S6 : w.heap.size ≤ w6.heap.size := (by omega)
          clear cp5_0 cp5_1 cp5_2 cp5_3 cp5_4 fp5_0 fp5_1 fp5_2 fp5_3 fp5_4 cres5_0 cres5_1 cres5_2 fres5_0 fres5_1 fres5_2 co5_0 co5_1 co5_2 fo5_0 fo5_1 fo5_2
          have hag : 0 ≤ ag ∧ ag ≤ 8 := by omega
          obtain ⟨hag0, hag2⟩ := hag; clear hag1
          have ne_p_res : w.heap.size ≠ w.heap.size + 1 := by omega
          have nf_p_res := ne_p_res.symm
          have ne_p_o : w.heap.size ≠ w2.heap.size := by omega
          have nf_p_o := ne_p_o.symm
          have ne_res_o : w.heap.size + 1 ≠ w2.heap.size := by omega
          have nf_res_o := ne_res_o.symm
          go_wp2_with (fail)
          refine bodyPost_ret (v := .agg #[.int .i64 1, .int .i64 0, .int .i64 ag]) (by simp [results, Tryd.results26, go_sem, cres6_0, cres6_1, cres6_2, lres6, co6_0, co6_1, co6_2, lo6, ne_p_res, nf_p_res, ne_p_o, nf_p_o, ne_res_o, nf_res_o]) rfl ⟨(1, 0, ag), rfl, (by unfold opSmall Kd; dsimp only; omega), (((A6.out.set (a := ⟨w.heap.size + 1, 0, none⟩) (by first | omega | (simp only [szA, szS, szD, World.heap_drewN] at * <;> omega)) (.int .i64 1)).set (a := ⟨w.heap.size + 1, 1, none⟩) (by first | omega | (simp only [szA, szS, szD, World.heap_drewN] at * <;> omega)) (.int .i64 0)).set (a := ⟨w.heap.size + 1, 2, none⟩) (by first | omega | (simp only [szA, szS, szD, World.heap_drewN] at * <;> omega)) (.int .i64 ag)).mono (by omega)⟩
        · have HV := Lib.hid hv; clear hv
          go_wp2_with (fail)
          refine (sOpValidO _ c (1, 0, ar) _ ((OP_0.out.past (A4.out.set (a := ⟨w2.heap.size, 1, none⟩) (by first | omega | (simp only [szA, szS, szD, World.heap_drewN] at * <;> omega)) (.int .i64 0)).g hlo).row)).mono ?_
          rw [HV.out]
          rintro e w5 ⟨rfl, hb⟩
          have A5 := Lib.hid (Dr.below (A4.out.set (a := ⟨w2.heap.size, 1, none⟩) (by first | omega | (simp only [szA, szS, szD, World.heap_drewN] at * <;> omega)) (.int .i64 0)) hb)
          have Z5 := hb.size
          have N5 : w4.heap.size ≤ w5.heap.size := (by first | with_reducible exact Z5 | (simp only [szA, szS, szD] at Z5; omega))
          clear Z5
          have Xp_5 := Lib.hid (below_at hb (set_off (a := ⟨w2.heap.size, 1, none⟩) Xp_4.out (by first | omega | (simp only [szA, szS, szD, World.heap_drewN] at * <;> omega)) (.int .i64 0)))
          have Xres_5 := Lib.hid (below_at hb (set_off (a := ⟨w2.heap.size, 1, none⟩) Xres_4.out (by first | omega | (simp only [szA, szS, szD, World.heap_drewN] at * <;> omega)) (.int .i64 0)))
          have Xo_5 := Lib.hid (below_at hb (set_at (a := ⟨w2.heap.size, 1, none⟩) Xo_4.out rfl rfl (.int .i64 0)))
          clear hb
          obtain ⟨cp5_0, cp5_1, cp5_2, cp5_3, cp5_4, fp5_0, fp5_1, fp5_2, fp5_3, fp5_4⟩ := box5 Xp_5.out; have lp5 := heap_lt Xp_5.out
          obtain ⟨cres5_0, cres5_1, cres5_2, fres5_0, fres5_1, fres5_2⟩ := box3 Xres_5.out; have lres5 := heap_lt Xres_5.out
          obtain ⟨co5_0, co5_1, co5_2, fo5_0, fo5_1, fo5_2⟩ := box3 Xo_5.out; have lo5 := heap_lt Xo_5.out
          have S5 : w.heap.size ≤ w5.heap.size := (by omega)
          clear cp4_0 cp4_1 cp4_2 cp4_3 cp4_4 fp4_0 fp4_1 fp4_2 fp4_3 fp4_4 cres4_0 cres4_1 cres4_2 fres4_0 fres4_1 fres4_2 co4_0 co4_1 co4_2 fo4_0 fo4_1 fo4_2
          have ne_p_res : w.heap.size ≠ w.heap.size + 1 := by omega
          have nf_p_res := ne_p_res.symm
          have ne_p_o : w.heap.size ≠ w2.heap.size := by omega
          have nf_p_o := ne_p_o.symm
          have ne_res_o : w.heap.size + 1 ≠ w2.heap.size := by omega
          have nf_res_o := ne_res_o.symm
          go_wp2_with (fail)
          refine bodyPost_ret (v := .agg #[.int .i64 1, .int .i64 0, .int .i64 ar]) (by simp [results, Tryd.results26, go_sem, cres5_0, cres5_1, cres5_2, lres5, co5_0, co5_1, co5_2, lo5, ne_p_res, nf_p_res, ne_p_o, nf_p_o, ne_res_o, nf_res_o]) rfl ⟨(1, 0, ar), rfl, (by unfold opSmall Kd; dsimp only; omega), (((A5.out.set (a := ⟨w.heap.size + 1, 0, none⟩) (by first | omega | (simp only [szA, szS, szD, World.heap_drewN] at * <;> omega)) (.int .i64 1)).set (a := ⟨w.heap.size + 1, 1, none⟩) (by first | omega | (simp only [szA, szS, szD, World.heap_drewN] at * <;> omega)) (.int .i64 0)).set (a := ⟨w.heap.size + 1, 2, none⟩) (by first | omega | (simp only [szA, szS, szD, World.heap_drewN] at * <;> omega)) (.int .i64 ar)).mono (by omega)⟩
      · have HV := Lib.hid hv; clear hv
        go_wp2_with (fail)
        refine (sOpValidO _ c (1, on, ar) _ ((OP_0.out.past (A3.out.set (a := ⟨w2.heap.size, 2, none⟩) (by first | omega | (simp only [szA, szS, szD, World.heap_drewN] at * <;> omega)) (.int .i64 ar)).g hlo).row)).mono ?_
        rw [HV.out]
        rintro e w4 ⟨rfl, hb⟩
        have A4 := Lib.hid (Dr.below (A3.out.set (a := ⟨w2.heap.size, 2, none⟩) (by first | omega | (simp only [szA, szS, szD, World.heap_drewN] at * <;> omega)) (.int .i64 ar)) hb)
        have Z4 := hb.size
        have N4 : w3.heap.size ≤ w4.heap.size := (by first | with_reducible exact Z4 | (simp only [szA, szS, szD] at Z4; omega))
        clear Z4
        have Xp_4 := Lib.hid (below_at hb (set_off (a := ⟨w2.heap.size, 2, none⟩) Xp_3.out (by first | omega | (simp only [szA, szS, szD, World.heap_drewN] at * <;> omega)) (.int .i64 ar)))
        have Xres_4 := Lib.hid (below_at hb (set_off (a := ⟨w2.heap.size, 2, none⟩) Xres_3.out (by first | omega | (simp only [szA, szS, szD, World.heap_drewN] at * <;> omega)) (.int .i64 ar)))
        have Xo_4 := Lib.hid (below_at hb (set_at (a := ⟨w2.heap.size, 2, none⟩) Xo_3.out rfl rfl (.int .i64 ar)))
        clear hb
        obtain ⟨cp4_0, cp4_1, cp4_2, cp4_3, cp4_4, fp4_0, fp4_1, fp4_2, fp4_3, fp4_4⟩ := box5 Xp_4.out; have lp4 := heap_lt Xp_4.out
        obtain ⟨cres4_0, cres4_1, cres4_2, fres4_0, fres4_1, fres4_2⟩ := box3 Xres_4.out; have lres4 := heap_lt Xres_4.out
        obtain ⟨co4_0, co4_1, co4_2, fo4_0, fo4_1, fo4_2⟩ := box3 Xo_4.out; have lo4 := heap_lt Xo_4.out
        have S4 : w.heap.size ≤ w4.heap.size := (by omega)
        clear cp3_0 cp3_1 cp3_2 cp3_3 cp3_4 fp3_0 fp3_1 fp3_2 fp3_3 fp3_4 cres3_0 cres3_1 cres3_2 fres3_0 fres3_1 fres3_2 co3_0 co3_1 co3_2 fo3_0 fo3_1 fo3_2
        go_wp2_with (fail)
        refine (sOpValidO _ c (1, on, ar) _ ((OP_0.out.past A4.out.g hlo).row)).mono ?_
        rw [HV.out]
        rintro e w5 ⟨rfl, hb⟩
        have A5 := Lib.hid (Dr.below A4.out hb)
        have Z5 := hb.size
        have N5 : w4.heap.size ≤ w5.heap.size := (by first | with_reducible exact Z5 | (simp only [szA, szS, szD] at Z5; omega))
        clear Z5
        have Xp_5 := Lib.hid (below_at hb Xp_4.out)
        have Xres_5 := Lib.hid (below_at hb Xres_4.out)
        have Xo_5 := Lib.hid (below_at hb Xo_4.out)
        clear hb
        obtain ⟨cp5_0, cp5_1, cp5_2, cp5_3, cp5_4, fp5_0, fp5_1, fp5_2, fp5_3, fp5_4⟩ := box5 Xp_5.out; have lp5 := heap_lt Xp_5.out
        obtain ⟨cres5_0, cres5_1, cres5_2, fres5_0, fres5_1, fres5_2⟩ := box3 Xres_5.out; have lres5 := heap_lt Xres_5.out
        obtain ⟨co5_0, co5_1, co5_2, fo5_0, fo5_1, fo5_2⟩ := box3 Xo_5.out; have lo5 := heap_lt Xo_5.out
        have S5 : w.heap.size ≤ w5.heap.size := (by omega)
        clear cp4_0 cp4_1 cp4_2 cp4_3 cp4_4 fp4_0 fp4_1 fp4_2 fp4_3 fp4_4 cres4_0 cres4_1 cres4_2 fres4_0 fres4_1 fres4_2 co4_0 co4_1 co4_2 fo4_0 fo4_1 fo4_2
        have ne_p_res : w.heap.size ≠ w.heap.size + 1 := by omega
        have nf_p_res := ne_p_res.symm
        have ne_p_o : w.heap.size ≠ w2.heap.size := by omega
        have nf_p_o := ne_p_o.symm
        have ne_res_o : w.heap.size + 1 ≠ w2.heap.size := by omega
        have nf_res_o := ne_res_o.symm
        go_wp2_with (fail)
        refine bodyPost_ret (v := .agg #[.int .i64 1, .int .i64 on, .int .i64 ar]) (by simp [results, Tryd.results26, go_sem, cres5_0, cres5_1, cres5_2, lres5, co5_0, co5_1, co5_2, lo5, ne_p_res, nf_p_res, ne_p_o, nf_p_o, ne_res_o, nf_res_o]) rfl ⟨(1, on, ar), rfl, (by unfold opSmall Kd; dsimp only; omega), (((A5.out.set (a := ⟨w.heap.size + 1, 0, none⟩) (by first | omega | (simp only [szA, szS, szD, World.heap_drewN] at * <;> omega)) (.int .i64 1)).set (a := ⟨w.heap.size + 1, 1, none⟩) (by first | omega | (simp only [szA, szS, szD, World.heap_drewN] at * <;> omega)) (.int .i64 on)).set (a := ⟨w.heap.size + 1, 2, none⟩) (by first | omega | (simp only [szA, szS, szD, World.heap_drewN] at * <;> omega)) (.int .i64 ar)).mono (by omega)⟩
    · go_wp2_with (fail)
      refine (numD b (N + 2) _ [1, 1, 2] w _ ((A2.out.alloc _).alloc _) (by omega) (lit_row _ (by decide) rfl rfl (by first | omega | (simp only [szA, szS, szD, World.heap_drewN] at * <;> omega))) (by decide) (by simp [Value.ownBlock]; omega)).mono ?_
      rintro e w3 ⟨ar, rfl, har, hd⟩
      have A3 := Lib.hid (Dr.then ((A2.out.alloc _).alloc _) hd)
      have Z3 := hd.size
      have N3 : w2.heap.size + 2 ≤ w3.heap.size := (by first | with_reducible exact Z3 | (simp only [szA, szS, szD] at Z3; omega))
      clear Z3
      have Xp_3 := Lib.hid (hd.at_ (heap_up (heap_up Xp_2.out)) (by first | omega | (simp only [szA, szS, szD, World.heap_drewN] at * <;> omega)))
      have Xres_3 := Lib.hid (hd.at_ (heap_up (heap_up Xres_2.out)) (by first | omega | (simp only [szA, szS, szD, World.heap_drewN] at * <;> omega)))
      have Xo_3 : Hid (w3.heap[w2.heap.size]? = some (.cells #[.int .i64 2, .int .i64 on, .int .i64 0] 23 (0, 0))) := hd.at_ (heap_up (heap_at' (n := w2.heap.size) (by first | omega | (simp only [szA, szS, szD, World.heap_drewN] at * <;> omega)))) (by first | omega | (simp only [szA, szS, szD, World.heap_drewN] at * <;> omega))
      clear hd
      obtain ⟨cp3_0, cp3_1, cp3_2, cp3_3, cp3_4, fp3_0, fp3_1, fp3_2, fp3_3, fp3_4⟩ := box5 Xp_3.out; have lp3 := heap_lt Xp_3.out
      obtain ⟨cres3_0, cres3_1, cres3_2, fres3_0, fres3_1, fres3_2⟩ := box3 Xres_3.out; have lres3 := heap_lt Xres_3.out
      obtain ⟨co3_0, co3_1, co3_2, fo3_0, fo3_1, fo3_2⟩ := box3 Xo_3.out; have lo3 := heap_lt Xo_3.out
      have S3 : w.heap.size ≤ w3.heap.size := (by omega)
      clear cp2_0 cp2_1 cp2_2 cp2_3 cp2_4 fp2_0 fp2_1 fp2_2 fp2_3 fp2_4 cres2_0 cres2_1 cres2_2 fres2_0 fres2_1 fres2_2
      have harb : 1 ≤ ar ∧ ar ≤ 2 := by simp at har; omega
      obtain ⟨har0, har1⟩ := harb; clear har
      cases hv : opB c (2, on, ar)
      · have HV := Lib.hid hv; clear hv
        go_wp2_with (fail)
        refine (sOpValidO _ c (2, on, ar) _ ((OP_0.out.past (A3.out.set (a := ⟨w2.heap.size, 2, none⟩) (by first | omega | (simp only [szA, szS, szD, World.heap_drewN] at * <;> omega)) (.int .i64 ar)).g hlo).row)).mono ?_
        rw [HV.out]
        rintro e w4 ⟨rfl, hb⟩
        have A4 := Lib.hid (Dr.below (A3.out.set (a := ⟨w2.heap.size, 2, none⟩) (by first | omega | (simp only [szA, szS, szD, World.heap_drewN] at * <;> omega)) (.int .i64 ar)) hb)
        have Z4 := hb.size
        have N4 : w3.heap.size ≤ w4.heap.size := (by first | with_reducible exact Z4 | (simp only [szA, szS, szD] at Z4; omega))
        clear Z4
        have Xp_4 := Lib.hid (below_at hb (set_off (a := ⟨w2.heap.size, 2, none⟩) Xp_3.out (by first | omega | (simp only [szA, szS, szD, World.heap_drewN] at * <;> omega)) (.int .i64 ar)))
        have Xres_4 := Lib.hid (below_at hb (set_off (a := ⟨w2.heap.size, 2, none⟩) Xres_3.out (by first | omega | (simp only [szA, szS, szD, World.heap_drewN] at * <;> omega)) (.int .i64 ar)))
        have Xo_4 := Lib.hid (below_at hb (set_at (a := ⟨w2.heap.size, 2, none⟩) Xo_3.out rfl rfl (.int .i64 ar)))
        clear hb
        obtain ⟨cp4_0, cp4_1, cp4_2, cp4_3, cp4_4, fp4_0, fp4_1, fp4_2, fp4_3, fp4_4⟩ := box5 Xp_4.out; have lp4 := heap_lt Xp_4.out
        obtain ⟨cres4_0, cres4_1, cres4_2, fres4_0, fres4_1, fres4_2⟩ := box3 Xres_4.out; have lres4 := heap_lt Xres_4.out
        obtain ⟨co4_0, co4_1, co4_2, fo4_0, fo4_1, fo4_2⟩ := box3 Xo_4.out; have lo4 := heap_lt Xo_4.out
        have S4 : w.heap.size ≤ w4.heap.size := (by omega)
        clear cp3_0 cp3_1 cp3_2 cp3_3 cp3_4 fp3_0 fp3_1 fp3_2 fp3_3 fp3_4 cres3_0 cres3_1 cres3_2 fres3_0 fres3_1 fres3_2 co3_0 co3_1 co3_2 fo3_0 fo3_1 fo3_2
        cases hv : opB c (2, 0, ar)
        · have HV := Lib.hid hv; clear hv
          go_wp2_with (fail)
          refine (sOpValidO _ c (2, 0, ar) _ ((OP_0.out.past (A4.out.set (a := ⟨w2.heap.size, 1, none⟩) (by first | omega | (simp only [szA, szS, szD, World.heap_drewN] at * <;> omega)) (.int .i64 0)).g hlo).row)).mono ?_
          rw [HV.out]
          rintro e w5 ⟨rfl, hb⟩
          have A5 := Lib.hid (Dr.below (A4.out.set (a := ⟨w2.heap.size, 1, none⟩) (by first | omega | (simp only [szA, szS, szD, World.heap_drewN] at * <;> omega)) (.int .i64 0)) hb)
          have Z5 := hb.size
          have N5 : w4.heap.size ≤ w5.heap.size := (by first | with_reducible exact Z5 | (simp only [szA, szS, szD] at Z5; omega))
          clear Z5
          have Xp_5 := Lib.hid (below_at hb (set_off (a := ⟨w2.heap.size, 1, none⟩) Xp_4.out (by first | omega | (simp only [szA, szS, szD, World.heap_drewN] at * <;> omega)) (.int .i64 0)))
          have Xres_5 := Lib.hid (below_at hb (set_off (a := ⟨w2.heap.size, 1, none⟩) Xres_4.out (by first | omega | (simp only [szA, szS, szD, World.heap_drewN] at * <;> omega)) (.int .i64 0)))
          have Xo_5 := Lib.hid (below_at hb (set_at (a := ⟨w2.heap.size, 1, none⟩) Xo_4.out rfl rfl (.int .i64 0)))
          clear hb
          obtain ⟨cp5_0, cp5_1, cp5_2, cp5_3, cp5_4, fp5_0, fp5_1, fp5_2, fp5_3, fp5_4⟩ := box5 Xp_5.out; have lp5 := heap_lt Xp_5.out
          obtain ⟨cres5_0, cres5_1, cres5_2, fres5_0, fres5_1, fres5_2⟩ := box3 Xres_5.out; have lres5 := heap_lt Xres_5.out
          obtain ⟨co5_0, co5_1, co5_2, fo5_0, fo5_1, fo5_2⟩ := box3 Xo_5.out; have lo5 := heap_lt Xo_5.out
          have S5 : w.heap.size ≤ w5.heap.size := (by omega)
          clear cp4_0 cp4_1 cp4_2 cp4_3 cp4_4 fp4_0 fp4_1 fp4_2 fp4_3 fp4_4 cres4_0 cres4_1 cres4_2 fres4_0 fres4_1 fres4_2 co4_0 co4_1 co4_2 fo4_0 fo4_1 fo4_2
          go_wp2_with (fail)
          refine (pickD b (N + 3) 9 w _ A5.out (by omega) (by decide)).mono ?_
          rintro e w6 ⟨ag, rfl, hag0, hag1, hd⟩
          have A6 := Lib.hid (Dr.then A5.out hd)
          have Z6 := hd.size
          have N6 : w5.heap.size ≤ w6.heap.size := (by first | with_reducible exact Z6 | (simp only [szA, szS, szD] at Z6; omega))
          clear Z6
          have Xp_6 := Lib.hid (hd.at_ Xp_5.out (by first | omega | (simp only [szA, szS, szD, World.heap_drewN] at * <;> omega)))
          have Xres_6 := Lib.hid (hd.at_ Xres_5.out (by first | omega | (simp only [szA, szS, szD, World.heap_drewN] at * <;> omega)))
          have Xo_6 := Lib.hid (hd.at_ Xo_5.out (by first | omega | (simp only [szA, szS, szD, World.heap_drewN] at * <;> omega)))
          clear hd
          obtain ⟨cp6_0, cp6_1, cp6_2, cp6_3, cp6_4, fp6_0, fp6_1, fp6_2, fp6_3, fp6_4⟩ := box5 Xp_6.out; have lp6 := heap_lt Xp_6.out
          obtain ⟨cres6_0, cres6_1, cres6_2, fres6_0, fres6_1, fres6_2⟩ := box3 Xres_6.out; have lres6 := heap_lt Xres_6.out
          obtain ⟨co6_0, co6_1, co6_2, fo6_0, fo6_1, fo6_2⟩ := box3 Xo_6.out; have lo6 := heap_lt Xo_6.out
          have S6 : w.heap.size ≤ w6.heap.size := (by omega)
          clear cp5_0 cp5_1 cp5_2 cp5_3 cp5_4 fp5_0 fp5_1 fp5_2 fp5_3 fp5_4 cres5_0 cres5_1 cres5_2 fres5_0 fres5_1 fres5_2 co5_0 co5_1 co5_2 fo5_0 fo5_1 fo5_2
          have hag : 0 ≤ ag ∧ ag ≤ 8 := by omega
          obtain ⟨hag0, hag2⟩ := hag; clear hag1
          have ne_p_res : w.heap.size ≠ w.heap.size + 1 := by omega
          have nf_p_res := ne_p_res.symm
          have ne_p_o : w.heap.size ≠ w2.heap.size := by omega
          have nf_p_o := ne_p_o.symm
          have ne_res_o : w.heap.size + 1 ≠ w2.heap.size := by omega
          have nf_res_o := ne_res_o.symm
          go_wp2_with (fail)
          refine bodyPost_ret (v := .agg #[.int .i64 1, .int .i64 0, .int .i64 ag]) (by simp [results, Tryd.results26, go_sem, cres6_0, cres6_1, cres6_2, lres6, co6_0, co6_1, co6_2, lo6, ne_p_res, nf_p_res, ne_p_o, nf_p_o, ne_res_o, nf_res_o]) rfl ⟨(1, 0, ag), rfl, (by unfold opSmall Kd; dsimp only; omega), (((A6.out.set (a := ⟨w.heap.size + 1, 0, none⟩) (by first | omega | (simp only [szA, szS, szD, World.heap_drewN] at * <;> omega)) (.int .i64 1)).set (a := ⟨w.heap.size + 1, 1, none⟩) (by first | omega | (simp only [szA, szS, szD, World.heap_drewN] at * <;> omega)) (.int .i64 0)).set (a := ⟨w.heap.size + 1, 2, none⟩) (by first | omega | (simp only [szA, szS, szD, World.heap_drewN] at * <;> omega)) (.int .i64 ag)).mono (by omega)⟩
        · have HV := Lib.hid hv; clear hv
          go_wp2_with (fail)
          refine (sOpValidO _ c (2, 0, ar) _ ((OP_0.out.past (A4.out.set (a := ⟨w2.heap.size, 1, none⟩) (by first | omega | (simp only [szA, szS, szD, World.heap_drewN] at * <;> omega)) (.int .i64 0)).g hlo).row)).mono ?_
          rw [HV.out]
          rintro e w5 ⟨rfl, hb⟩
          have A5 := Lib.hid (Dr.below (A4.out.set (a := ⟨w2.heap.size, 1, none⟩) (by first | omega | (simp only [szA, szS, szD, World.heap_drewN] at * <;> omega)) (.int .i64 0)) hb)
          have Z5 := hb.size
          have N5 : w4.heap.size ≤ w5.heap.size := (by first | with_reducible exact Z5 | (simp only [szA, szS, szD] at Z5; omega))
          clear Z5
          have Xp_5 := Lib.hid (below_at hb (set_off (a := ⟨w2.heap.size, 1, none⟩) Xp_4.out (by first | omega | (simp only [szA, szS, szD, World.heap_drewN] at * <;> omega)) (.int .i64 0)))
          have Xres_5 := Lib.hid (below_at hb (set_off (a := ⟨w2.heap.size, 1, none⟩) Xres_4.out (by first | omega | (simp only [szA, szS, szD, World.heap_drewN] at * <;> omega)) (.int .i64 0)))
          have Xo_5 := Lib.hid (below_at hb (set_at (a := ⟨w2.heap.size, 1, none⟩) Xo_4.out rfl rfl (.int .i64 0)))
          clear hb
          obtain ⟨cp5_0, cp5_1, cp5_2, cp5_3, cp5_4, fp5_0, fp5_1, fp5_2, fp5_3, fp5_4⟩ := box5 Xp_5.out; have lp5 := heap_lt Xp_5.out
          obtain ⟨cres5_0, cres5_1, cres5_2, fres5_0, fres5_1, fres5_2⟩ := box3 Xres_5.out; have lres5 := heap_lt Xres_5.out
          obtain ⟨co5_0, co5_1, co5_2, fo5_0, fo5_1, fo5_2⟩ := box3 Xo_5.out; have lo5 := heap_lt Xo_5.out
          have S5 : w.heap.size ≤ w5.heap.size := (by omega)
          clear cp4_0 cp4_1 cp4_2 cp4_3 cp4_4 fp4_0 fp4_1 fp4_2 fp4_3 fp4_4 cres4_0 cres4_1 cres4_2 fres4_0 fres4_1 fres4_2 co4_0 co4_1 co4_2 fo4_0 fo4_1 fo4_2
          have ne_p_res : w.heap.size ≠ w.heap.size + 1 := by omega
          have nf_p_res := ne_p_res.symm
          have ne_p_o : w.heap.size ≠ w2.heap.size := by omega
          have nf_p_o := ne_p_o.symm
          have ne_res_o : w.heap.size + 1 ≠ w2.heap.size := by omega
          have nf_res_o := ne_res_o.symm
          go_wp2_with (fail)
          refine bodyPost_ret (v := .agg #[.int .i64 2, .int .i64 0, .int .i64 ar]) (by simp [results, Tryd.results26, go_sem, cres5_0, cres5_1, cres5_2, lres5, co5_0, co5_1, co5_2, lo5, ne_p_res, nf_p_res, ne_p_o, nf_p_o, ne_res_o, nf_res_o]) rfl ⟨(2, 0, ar), rfl, (by unfold opSmall Kd; dsimp only; omega), (((A5.out.set (a := ⟨w.heap.size + 1, 0, none⟩) (by first | omega | (simp only [szA, szS, szD, World.heap_drewN] at * <;> omega)) (.int .i64 2)).set (a := ⟨w.heap.size + 1, 1, none⟩) (by first | omega | (simp only [szA, szS, szD, World.heap_drewN] at * <;> omega)) (.int .i64 0)).set (a := ⟨w.heap.size + 1, 2, none⟩) (by first | omega | (simp only [szA, szS, szD, World.heap_drewN] at * <;> omega)) (.int .i64 ar)).mono (by omega)⟩
      · have HV := Lib.hid hv; clear hv
        go_wp2_with (fail)
        refine (sOpValidO _ c (2, on, ar) _ ((OP_0.out.past (A3.out.set (a := ⟨w2.heap.size, 2, none⟩) (by first | omega | (simp only [szA, szS, szD, World.heap_drewN] at * <;> omega)) (.int .i64 ar)).g hlo).row)).mono ?_
        rw [HV.out]
        rintro e w4 ⟨rfl, hb⟩
        have A4 := Lib.hid (Dr.below (A3.out.set (a := ⟨w2.heap.size, 2, none⟩) (by first | omega | (simp only [szA, szS, szD, World.heap_drewN] at * <;> omega)) (.int .i64 ar)) hb)
        have Z4 := hb.size
        have N4 : w3.heap.size ≤ w4.heap.size := (by first | with_reducible exact Z4 | (simp only [szA, szS, szD] at Z4; omega))
        clear Z4
        have Xp_4 := Lib.hid (below_at hb (set_off (a := ⟨w2.heap.size, 2, none⟩) Xp_3.out (by first | omega | (simp only [szA, szS, szD, World.heap_drewN] at * <;> omega)) (.int .i64 ar)))
        have Xres_4 := Lib.hid (below_at hb (set_off (a := ⟨w2.heap.size, 2, none⟩) Xres_3.out (by first | omega | (simp only [szA, szS, szD, World.heap_drewN] at * <;> omega)) (.int .i64 ar)))
        have Xo_4 := Lib.hid (below_at hb (set_at (a := ⟨w2.heap.size, 2, none⟩) Xo_3.out rfl rfl (.int .i64 ar)))
        clear hb
        obtain ⟨cp4_0, cp4_1, cp4_2, cp4_3, cp4_4, fp4_0, fp4_1, fp4_2, fp4_3, fp4_4⟩ := box5 Xp_4.out; have lp4 := heap_lt Xp_4.out
        obtain ⟨cres4_0, cres4_1, cres4_2, fres4_0, fres4_1, fres4_2⟩ := box3 Xres_4.out; have lres4 := heap_lt Xres_4.out
        obtain ⟨co4_0, co4_1, co4_2, fo4_0, fo4_1, fo4_2⟩ := box3 Xo_4.out; have lo4 := heap_lt Xo_4.out
        have S4 : w.heap.size ≤ w4.heap.size := (by omega)
        clear cp3_0 cp3_1 cp3_2 cp3_3 cp3_4 fp3_0 fp3_1 fp3_2 fp3_3 fp3_4 cres3_0 cres3_1 cres3_2 fres3_0 fres3_1 fres3_2 co3_0 co3_1 co3_2 fo3_0 fo3_1 fo3_2
        go_wp2_with (fail)
        refine (sOpValidO _ c (2, on, ar) _ ((OP_0.out.past A4.out.g hlo).row)).mono ?_
        rw [HV.out]
        rintro e w5 ⟨rfl, hb⟩
        have A5 := Lib.hid (Dr.below A4.out hb)
        have Z5 := hb.size
        have N5 : w4.heap.size ≤ w5.heap.size := (by first | with_reducible exact Z5 | (simp only [szA, szS, szD] at Z5; omega))
        clear Z5
        have Xp_5 := Lib.hid (below_at hb Xp_4.out)
        have Xres_5 := Lib.hid (below_at hb Xres_4.out)
        have Xo_5 := Lib.hid (below_at hb Xo_4.out)
        clear hb
        obtain ⟨cp5_0, cp5_1, cp5_2, cp5_3, cp5_4, fp5_0, fp5_1, fp5_2, fp5_3, fp5_4⟩ := box5 Xp_5.out; have lp5 := heap_lt Xp_5.out
        obtain ⟨cres5_0, cres5_1, cres5_2, fres5_0, fres5_1, fres5_2⟩ := box3 Xres_5.out; have lres5 := heap_lt Xres_5.out
        obtain ⟨co5_0, co5_1, co5_2, fo5_0, fo5_1, fo5_2⟩ := box3 Xo_5.out; have lo5 := heap_lt Xo_5.out
        have S5 : w.heap.size ≤ w5.heap.size := (by omega)
        clear cp4_0 cp4_1 cp4_2 cp4_3 cp4_4 fp4_0 fp4_1 fp4_2 fp4_3 fp4_4 cres4_0 cres4_1 cres4_2 fres4_0 fres4_1 fres4_2 co4_0 co4_1 co4_2 fo4_0 fo4_1 fo4_2
        have ne_p_res : w.heap.size ≠ w.heap.size + 1 := by omega
        have nf_p_res := ne_p_res.symm
        have ne_p_o : w.heap.size ≠ w2.heap.size := by omega
        have nf_p_o := ne_p_o.symm
        have ne_res_o : w.heap.size + 1 ≠ w2.heap.size := by omega
        have nf_res_o := ne_res_o.symm
        go_wp2_with (fail)
        refine bodyPost_ret (v := .agg #[.int .i64 2, .int .i64 on, .int .i64 ar]) (by simp [results, Tryd.results26, go_sem, cres5_0, cres5_1, cres5_2, lres5, co5_0, co5_1, co5_2, lo5, ne_p_res, nf_p_res, ne_p_o, nf_p_o, ne_res_o, nf_res_o]) rfl ⟨(2, on, ar), rfl, (by unfold opSmall Kd; dsimp only; omega), (((A5.out.set (a := ⟨w.heap.size + 1, 0, none⟩) (by first | omega | (simp only [szA, szS, szD, World.heap_drewN] at * <;> omega)) (.int .i64 2)).set (a := ⟨w.heap.size + 1, 1, none⟩) (by first | omega | (simp only [szA, szS, szD, World.heap_drewN] at * <;> omega)) (.int .i64 on)).set (a := ⟨w.heap.size + 1, 2, none⟩) (by first | omega | (simp only [szA, szS, szD, World.heap_drewN] at * <;> omega)) (.int .i64 ar)).mono (by omega)⟩
    · go_wp2_with (fail)
      refine (numD b (N + 2) _ [1, 1, 2] w _ ((A2.out.alloc _).alloc _) (by omega) (lit_row _ (by decide) rfl rfl (by first | omega | (simp only [szA, szS, szD, World.heap_drewN] at * <;> omega))) (by decide) (by simp [Value.ownBlock]; omega)).mono ?_
      rintro e w3 ⟨ar, rfl, har, hd⟩
      have A3 := Lib.hid (Dr.then ((A2.out.alloc _).alloc _) hd)
      have Z3 := hd.size
      have N3 : w2.heap.size + 2 ≤ w3.heap.size := (by first | with_reducible exact Z3 | (simp only [szA, szS, szD] at Z3; omega))
      clear Z3
      have Xp_3 := Lib.hid (hd.at_ (heap_up (heap_up Xp_2.out)) (by first | omega | (simp only [szA, szS, szD, World.heap_drewN] at * <;> omega)))
      have Xres_3 := Lib.hid (hd.at_ (heap_up (heap_up Xres_2.out)) (by first | omega | (simp only [szA, szS, szD, World.heap_drewN] at * <;> omega)))
      have Xo_3 : Hid (w3.heap[w2.heap.size]? = some (.cells #[.int .i64 3, .int .i64 on, .int .i64 0] 23 (0, 0))) := hd.at_ (heap_up (heap_at' (n := w2.heap.size) (by first | omega | (simp only [szA, szS, szD, World.heap_drewN] at * <;> omega)))) (by first | omega | (simp only [szA, szS, szD, World.heap_drewN] at * <;> omega))
      clear hd
      obtain ⟨cp3_0, cp3_1, cp3_2, cp3_3, cp3_4, fp3_0, fp3_1, fp3_2, fp3_3, fp3_4⟩ := box5 Xp_3.out; have lp3 := heap_lt Xp_3.out
      obtain ⟨cres3_0, cres3_1, cres3_2, fres3_0, fres3_1, fres3_2⟩ := box3 Xres_3.out; have lres3 := heap_lt Xres_3.out
      obtain ⟨co3_0, co3_1, co3_2, fo3_0, fo3_1, fo3_2⟩ := box3 Xo_3.out; have lo3 := heap_lt Xo_3.out
      have S3 : w.heap.size ≤ w3.heap.size := (by omega)
      clear cp2_0 cp2_1 cp2_2 cp2_3 cp2_4 fp2_0 fp2_1 fp2_2 fp2_3 fp2_4 cres2_0 cres2_1 cres2_2 fres2_0 fres2_1 fres2_2
      have harb : 1 ≤ ar ∧ ar ≤ 2 := by simp at har; omega
      obtain ⟨har0, har1⟩ := harb; clear har
      cases hv : opB c (3, on, ar)
      · have HV := Lib.hid hv; clear hv
        go_wp2_with (fail)
        refine (sOpValidO _ c (3, on, ar) _ ((OP_0.out.past (A3.out.set (a := ⟨w2.heap.size, 2, none⟩) (by first | omega | (simp only [szA, szS, szD, World.heap_drewN] at * <;> omega)) (.int .i64 ar)).g hlo).row)).mono ?_
        rw [HV.out]
        rintro e w4 ⟨rfl, hb⟩
        have A4 := Lib.hid (Dr.below (A3.out.set (a := ⟨w2.heap.size, 2, none⟩) (by first | omega | (simp only [szA, szS, szD, World.heap_drewN] at * <;> omega)) (.int .i64 ar)) hb)
        have Z4 := hb.size
        have N4 : w3.heap.size ≤ w4.heap.size := (by first | with_reducible exact Z4 | (simp only [szA, szS, szD] at Z4; omega))
        clear Z4
        have Xp_4 := Lib.hid (below_at hb (set_off (a := ⟨w2.heap.size, 2, none⟩) Xp_3.out (by first | omega | (simp only [szA, szS, szD, World.heap_drewN] at * <;> omega)) (.int .i64 ar)))
        have Xres_4 := Lib.hid (below_at hb (set_off (a := ⟨w2.heap.size, 2, none⟩) Xres_3.out (by first | omega | (simp only [szA, szS, szD, World.heap_drewN] at * <;> omega)) (.int .i64 ar)))
        have Xo_4 := Lib.hid (below_at hb (set_at (a := ⟨w2.heap.size, 2, none⟩) Xo_3.out rfl rfl (.int .i64 ar)))
        clear hb
        obtain ⟨cp4_0, cp4_1, cp4_2, cp4_3, cp4_4, fp4_0, fp4_1, fp4_2, fp4_3, fp4_4⟩ := box5 Xp_4.out; have lp4 := heap_lt Xp_4.out
        obtain ⟨cres4_0, cres4_1, cres4_2, fres4_0, fres4_1, fres4_2⟩ := box3 Xres_4.out; have lres4 := heap_lt Xres_4.out
        obtain ⟨co4_0, co4_1, co4_2, fo4_0, fo4_1, fo4_2⟩ := box3 Xo_4.out; have lo4 := heap_lt Xo_4.out
        have S4 : w.heap.size ≤ w4.heap.size := (by omega)
        clear cp3_0 cp3_1 cp3_2 cp3_3 cp3_4 fp3_0 fp3_1 fp3_2 fp3_3 fp3_4 cres3_0 cres3_1 cres3_2 fres3_0 fres3_1 fres3_2 co3_0 co3_1 co3_2 fo3_0 fo3_1 fo3_2
        cases hv : opB c (3, 0, ar)
        · have HV := Lib.hid hv; clear hv
          go_wp2_with (fail)
          refine (sOpValidO _ c (3, 0, ar) _ ((OP_0.out.past (A4.out.set (a := ⟨w2.heap.size, 1, none⟩) (by first | omega | (simp only [szA, szS, szD, World.heap_drewN] at * <;> omega)) (.int .i64 0)).g hlo).row)).mono ?_
          rw [HV.out]
          rintro e w5 ⟨rfl, hb⟩
          have A5 := Lib.hid (Dr.below (A4.out.set (a := ⟨w2.heap.size, 1, none⟩) (by first | omega | (simp only [szA, szS, szD, World.heap_drewN] at * <;> omega)) (.int .i64 0)) hb)
          have Z5 := hb.size
          have N5 : w4.heap.size ≤ w5.heap.size := (by first | with_reducible exact Z5 | (simp only [szA, szS, szD] at Z5; omega))
          clear Z5
          have Xp_5 := Lib.hid (below_at hb (set_off (a := ⟨w2.heap.size, 1, none⟩) Xp_4.out (by first | omega | (simp only [szA, szS, szD, World.heap_drewN] at * <;> omega)) (.int .i64 0)))
          have Xres_5 := Lib.hid (below_at hb (set_off (a := ⟨w2.heap.size, 1, none⟩) Xres_4.out (by first | omega | (simp only [szA, szS, szD, World.heap_drewN] at * <;> omega)) (.int .i64 0)))
          have Xo_5 := Lib.hid (below_at hb (set_at (a := ⟨w2.heap.size, 1, none⟩) Xo_4.out rfl rfl (.int .i64 0)))
          clear hb
          obtain ⟨cp5_0, cp5_1, cp5_2, cp5_3, cp5_4, fp5_0, fp5_1, fp5_2, fp5_3, fp5_4⟩ := box5 Xp_5.out; have lp5 := heap_lt Xp_5.out
          obtain ⟨cres5_0, cres5_1, cres5_2, fres5_0, fres5_1, fres5_2⟩ := box3 Xres_5.out; have lres5 := heap_lt Xres_5.out
          obtain ⟨co5_0, co5_1, co5_2, fo5_0, fo5_1, fo5_2⟩ := box3 Xo_5.out; have lo5 := heap_lt Xo_5.out
          have S5 : w.heap.size ≤ w5.heap.size := (by omega)
          clear cp4_0 cp4_1 cp4_2 cp4_3 cp4_4 fp4_0 fp4_1 fp4_2 fp4_3 fp4_4 cres4_0 cres4_1 cres4_2 fres4_0 fres4_1 fres4_2 co4_0 co4_1 co4_2 fo4_0 fo4_1 fo4_2
          go_wp2_with (fail)
          refine (pickD b (N + 3) 9 w _ A5.out (by omega) (by decide)).mono ?_
          rintro e w6 ⟨ag, rfl, hag0, hag1, hd⟩
          have A6 := Lib.hid (Dr.then A5.out hd)
          have Z6 := hd.size
          have N6 : w5.heap.size ≤ w6.heap.size := (by first | with_reducible exact Z6 | (simp only [szA, szS, szD] at Z6; omega))
          clear Z6
          have Xp_6 := Lib.hid (hd.at_ Xp_5.out (by first | omega | (simp only [szA, szS, szD, World.heap_drewN] at * <;> omega)))
          have Xres_6 := Lib.hid (hd.at_ Xres_5.out (by first | omega | (simp only [szA, szS, szD, World.heap_drewN] at * <;> omega)))
          have Xo_6 := Lib.hid (hd.at_ Xo_5.out (by first | omega | (simp only [szA, szS, szD, World.heap_drewN] at * <;> omega)))
          clear hd
          obtain ⟨cp6_0, cp6_1, cp6_2, cp6_3, cp6_4, fp6_0, fp6_1, fp6_2, fp6_3, fp6_4⟩ := box5 Xp_6.out; have lp6 := heap_lt Xp_6.out
          obtain ⟨cres6_0, cres6_1, cres6_2, fres6_0, fres6_1, fres6_2⟩ := box3 Xres_6.out; have lres6 := heap_lt Xres_6.out
          obtain ⟨co6_0, co6_1, co6_2, fo6_0, fo6_1, fo6_2⟩ := box3 Xo_6.out; have lo6 := heap_lt Xo_6.out
          have S6 : w.heap.size ≤ w6.heap.size := (by omega)
          clear cp5_0 cp5_1 cp5_2 cp5_3 cp5_4 fp5_0 fp5_1 fp5_2 fp5_3 fp5_4 cres5_0 cres5_1 cres5_2 fres5_0 fres5_1 fres5_2 co5_0 co5_1 co5_2 fo5_0 fo5_1 fo5_2
          have hag : 0 ≤ ag ∧ ag ≤ 8 := by omega
          obtain ⟨hag0, hag2⟩ := hag; clear hag1
          have ne_p_res : w.heap.size ≠ w.heap.size + 1 := by omega
          have nf_p_res := ne_p_res.symm
          have ne_p_o : w.heap.size ≠ w2.heap.size := by omega
          have nf_p_o := ne_p_o.symm
          have ne_res_o : w.heap.size + 1 ≠ w2.heap.size := by omega
          have nf_res_o := ne_res_o.symm
          go_wp2_with (fail)
          refine bodyPost_ret (v := .agg #[.int .i64 1, .int .i64 0, .int .i64 ag]) (by simp [results, Tryd.results26, go_sem, cres6_0, cres6_1, cres6_2, lres6, co6_0, co6_1, co6_2, lo6, ne_p_res, nf_p_res, ne_p_o, nf_p_o, ne_res_o, nf_res_o]) rfl ⟨(1, 0, ag), rfl, (by unfold opSmall Kd; dsimp only; omega), (((A6.out.set (a := ⟨w.heap.size + 1, 0, none⟩) (by first | omega | (simp only [szA, szS, szD, World.heap_drewN] at * <;> omega)) (.int .i64 1)).set (a := ⟨w.heap.size + 1, 1, none⟩) (by first | omega | (simp only [szA, szS, szD, World.heap_drewN] at * <;> omega)) (.int .i64 0)).set (a := ⟨w.heap.size + 1, 2, none⟩) (by first | omega | (simp only [szA, szS, szD, World.heap_drewN] at * <;> omega)) (.int .i64 ag)).mono (by omega)⟩
        · have HV := Lib.hid hv; clear hv
          go_wp2_with (fail)
          refine (sOpValidO _ c (3, 0, ar) _ ((OP_0.out.past (A4.out.set (a := ⟨w2.heap.size, 1, none⟩) (by first | omega | (simp only [szA, szS, szD, World.heap_drewN] at * <;> omega)) (.int .i64 0)).g hlo).row)).mono ?_
          rw [HV.out]
          rintro e w5 ⟨rfl, hb⟩
          have A5 := Lib.hid (Dr.below (A4.out.set (a := ⟨w2.heap.size, 1, none⟩) (by first | omega | (simp only [szA, szS, szD, World.heap_drewN] at * <;> omega)) (.int .i64 0)) hb)
          have Z5 := hb.size
          have N5 : w4.heap.size ≤ w5.heap.size := (by first | with_reducible exact Z5 | (simp only [szA, szS, szD] at Z5; omega))
          clear Z5
          have Xp_5 := Lib.hid (below_at hb (set_off (a := ⟨w2.heap.size, 1, none⟩) Xp_4.out (by first | omega | (simp only [szA, szS, szD, World.heap_drewN] at * <;> omega)) (.int .i64 0)))
          have Xres_5 := Lib.hid (below_at hb (set_off (a := ⟨w2.heap.size, 1, none⟩) Xres_4.out (by first | omega | (simp only [szA, szS, szD, World.heap_drewN] at * <;> omega)) (.int .i64 0)))
          have Xo_5 := Lib.hid (below_at hb (set_at (a := ⟨w2.heap.size, 1, none⟩) Xo_4.out rfl rfl (.int .i64 0)))
          clear hb
          obtain ⟨cp5_0, cp5_1, cp5_2, cp5_3, cp5_4, fp5_0, fp5_1, fp5_2, fp5_3, fp5_4⟩ := box5 Xp_5.out; have lp5 := heap_lt Xp_5.out
          obtain ⟨cres5_0, cres5_1, cres5_2, fres5_0, fres5_1, fres5_2⟩ := box3 Xres_5.out; have lres5 := heap_lt Xres_5.out
          obtain ⟨co5_0, co5_1, co5_2, fo5_0, fo5_1, fo5_2⟩ := box3 Xo_5.out; have lo5 := heap_lt Xo_5.out
          have S5 : w.heap.size ≤ w5.heap.size := (by omega)
          clear cp4_0 cp4_1 cp4_2 cp4_3 cp4_4 fp4_0 fp4_1 fp4_2 fp4_3 fp4_4 cres4_0 cres4_1 cres4_2 fres4_0 fres4_1 fres4_2 co4_0 co4_1 co4_2 fo4_0 fo4_1 fo4_2
          have ne_p_res : w.heap.size ≠ w.heap.size + 1 := by omega
          have nf_p_res := ne_p_res.symm
          have ne_p_o : w.heap.size ≠ w2.heap.size := by omega
          have nf_p_o := ne_p_o.symm
          have ne_res_o : w.heap.size + 1 ≠ w2.heap.size := by omega
          have nf_res_o := ne_res_o.symm
          go_wp2_with (fail)
          refine bodyPost_ret (v := .agg #[.int .i64 3, .int .i64 0, .int .i64 ar]) (by simp [results, Tryd.results26, go_sem, cres5_0, cres5_1, cres5_2, lres5, co5_0, co5_1, co5_2, lo5, ne_p_res, nf_p_res, ne_p_o, nf_p_o, ne_res_o, nf_res_o]) rfl ⟨(3, 0, ar), rfl, (by unfold opSmall Kd; dsimp only; omega), (((A5.out.set (a := ⟨w.heap.size + 1, 0, none⟩) (by first | omega | (simp only [szA, szS, szD, World.heap_drewN] at * <;> omega)) (.int .i64 3)).set (a := ⟨w.heap.size + 1, 1, none⟩) (by first | omega | (simp only [szA, szS, szD, World.heap_drewN] at * <;> omega)) (.int .i64 0)).set (a := ⟨w.heap.size + 1, 2, none⟩) (by first | omega | (simp only [szA, szS, szD, World.heap_drewN] at * <;> omega)) (.int .i64 ar)).mono (by omega)⟩
      · have HV := Lib.hid hv; clear hv
        go_wp2_with (fail)
        refine (sOpValidO _ c (3, on, ar) _ ((OP_0.out.past (A3.out.set (a := ⟨w2.heap.size, 2, none⟩) (by first | omega | (simp only [szA, szS, szD, World.heap_drewN] at * <;> omega)) (.int .i64 ar)).g hlo).row)).mono ?_
        rw [HV.out]
        rintro e w4 ⟨rfl, hb⟩
        have A4 := Lib.hid (Dr.below (A3.out.set (a := ⟨w2.heap.size, 2, none⟩) (by first | omega | (simp only [szA, szS, szD, World.heap_drewN] at * <;> omega)) (.int .i64 ar)) hb)
        have Z4 := hb.size
        have N4 : w3.heap.size ≤ w4.heap.size := (by first | with_reducible exact Z4 | (simp only [szA, szS, szD] at Z4; omega))
        clear Z4
        have Xp_4 := Lib.hid (below_at hb (set_off (a := ⟨w2.heap.size, 2, none⟩) Xp_3.out (by first | omega | (simp only [szA, szS, szD, World.heap_drewN] at * <;> omega)) (.int .i64 ar)))
        have Xres_4 := Lib.hid (below_at hb (set_off (a := ⟨w2.heap.size, 2, none⟩) Xres_3.out (by first | omega | (simp only [szA, szS, szD, World.heap_drewN] at * <;> omega)) (.int .i64 ar)))
        have Xo_4 := Lib.hid (below_at hb (set_at (a := ⟨w2.heap.size, 2, none⟩) Xo_3.out rfl rfl (.int .i64 ar)))
        clear hb
        obtain ⟨cp4_0, cp4_1, cp4_2, cp4_3, cp4_4, fp4_0, fp4_1, fp4_2, fp4_3, fp4_4⟩ := box5 Xp_4.out; have lp4 := heap_lt Xp_4.out
        obtain ⟨cres4_0, cres4_1, cres4_2, fres4_0, fres4_1, fres4_2⟩ := box3 Xres_4.out; have lres4 := heap_lt Xres_4.out
        obtain ⟨co4_0, co4_1, co4_2, fo4_0, fo4_1, fo4_2⟩ := box3 Xo_4.out; have lo4 := heap_lt Xo_4.out
        have S4 : w.heap.size ≤ w4.heap.size := (by omega)
        clear cp3_0 cp3_1 cp3_2 cp3_3 cp3_4 fp3_0 fp3_1 fp3_2 fp3_3 fp3_4 cres3_0 cres3_1 cres3_2 fres3_0 fres3_1 fres3_2 co3_0 co3_1 co3_2 fo3_0 fo3_1 fo3_2
        go_wp2_with (fail)
        refine (sOpValidO _ c (3, on, ar) _ ((OP_0.out.past A4.out.g hlo).row)).mono ?_
        rw [HV.out]
        rintro e w5 ⟨rfl, hb⟩
        have A5 := Lib.hid (Dr.below A4.out hb)
        have Z5 := hb.size
        have N5 : w4.heap.size ≤ w5.heap.size := (by first | with_reducible exact Z5 | (simp only [szA, szS, szD] at Z5; omega))
        clear Z5
        have Xp_5 := Lib.hid (below_at hb Xp_4.out)
        have Xres_5 := Lib.hid (below_at hb Xres_4.out)
        have Xo_5 := Lib.hid (below_at hb Xo_4.out)
        clear hb
        obtain ⟨cp5_0, cp5_1, cp5_2, cp5_3, cp5_4, fp5_0, fp5_1, fp5_2, fp5_3, fp5_4⟩ := box5 Xp_5.out; have lp5 := heap_lt Xp_5.out
        obtain ⟨cres5_0, cres5_1, cres5_2, fres5_0, fres5_1, fres5_2⟩ := box3 Xres_5.out; have lres5 := heap_lt Xres_5.out
        obtain ⟨co5_0, co5_1, co5_2, fo5_0, fo5_1, fo5_2⟩ := box3 Xo_5.out; have lo5 := heap_lt Xo_5.out
        have S5 : w.heap.size ≤ w5.heap.size := (by omega)
        clear cp4_0 cp4_1 cp4_2 cp4_3 cp4_4 fp4_0 fp4_1 fp4_2 fp4_3 fp4_4 cres4_0 cres4_1 cres4_2 fres4_0 fres4_1 fres4_2 co4_0 co4_1 co4_2 fo4_0 fo4_1 fo4_2
        have ne_p_res : w.heap.size ≠ w.heap.size + 1 := by omega
        have nf_p_res := ne_p_res.symm
        have ne_p_o : w.heap.size ≠ w2.heap.size := by omega
        have nf_p_o := ne_p_o.symm
        have ne_res_o : w.heap.size + 1 ≠ w2.heap.size := by omega
        have nf_res_o := ne_res_o.symm
        go_wp2_with (fail)
        refine bodyPost_ret (v := .agg #[.int .i64 3, .int .i64 on, .int .i64 ar]) (by simp [results, Tryd.results26, go_sem, cres5_0, cres5_1, cres5_2, lres5, co5_0, co5_1, co5_2, lo5, ne_p_res, nf_p_res, ne_p_o, nf_p_o, ne_res_o, nf_res_o]) rfl ⟨(3, on, ar), rfl, (by unfold opSmall Kd; dsimp only; omega), (((A5.out.set (a := ⟨w.heap.size + 1, 0, none⟩) (by first | omega | (simp only [szA, szS, szD, World.heap_drewN] at * <;> omega)) (.int .i64 3)).set (a := ⟨w.heap.size + 1, 1, none⟩) (by first | omega | (simp only [szA, szS, szD, World.heap_drewN] at * <;> omega)) (.int .i64 on)).set (a := ⟨w.heap.size + 1, 2, none⟩) (by first | omega | (simp only [szA, szS, szD, World.heap_drewN] at * <;> omega)) (.int .i64 ar)).mono (by omega)⟩
    · go_wp2_with (fail)
      refine (numD b (N + 2) _ [7, 1, 2, 99] w _ ((A2.out.alloc _).alloc _) (by omega) (lit_row _ (by decide) rfl rfl (by first | omega | (simp only [szA, szS, szD, World.heap_drewN] at * <;> omega))) (by decide) (by simp [Value.ownBlock]; omega)).mono ?_
      rintro e w3 ⟨ar, rfl, har, hd⟩
      have A3 := Lib.hid (Dr.then ((A2.out.alloc _).alloc _) hd)
      have Z3 := hd.size
      have N3 : w2.heap.size + 2 ≤ w3.heap.size := (by first | with_reducible exact Z3 | (simp only [szA, szS, szD] at Z3; omega))
      clear Z3
      have Xp_3 := Lib.hid (hd.at_ (heap_up (heap_up Xp_2.out)) (by first | omega | (simp only [szA, szS, szD, World.heap_drewN] at * <;> omega)))
      have Xres_3 := Lib.hid (hd.at_ (heap_up (heap_up Xres_2.out)) (by first | omega | (simp only [szA, szS, szD, World.heap_drewN] at * <;> omega)))
      have Xo_3 : Hid (w3.heap[w2.heap.size]? = some (.cells #[.int .i64 4, .int .i64 on, .int .i64 0] 23 (0, 0))) := hd.at_ (heap_up (heap_at' (n := w2.heap.size) (by first | omega | (simp only [szA, szS, szD, World.heap_drewN] at * <;> omega)))) (by first | omega | (simp only [szA, szS, szD, World.heap_drewN] at * <;> omega))
      clear hd
      obtain ⟨cp3_0, cp3_1, cp3_2, cp3_3, cp3_4, fp3_0, fp3_1, fp3_2, fp3_3, fp3_4⟩ := box5 Xp_3.out; have lp3 := heap_lt Xp_3.out
      obtain ⟨cres3_0, cres3_1, cres3_2, fres3_0, fres3_1, fres3_2⟩ := box3 Xres_3.out; have lres3 := heap_lt Xres_3.out
      obtain ⟨co3_0, co3_1, co3_2, fo3_0, fo3_1, fo3_2⟩ := box3 Xo_3.out; have lo3 := heap_lt Xo_3.out
      have S3 : w.heap.size ≤ w3.heap.size := (by omega)
      clear cp2_0 cp2_1 cp2_2 cp2_3 cp2_4 fp2_0 fp2_1 fp2_2 fp2_3 fp2_4 cres2_0 cres2_1 cres2_2 fres2_0 fres2_1 fres2_2
      have harb : 1 ≤ ar ∧ ar ≤ 99 := by simp at har; omega
      obtain ⟨har0, har1⟩ := harb; clear har
      cases hv : opB c (4, on, ar)
      · have HV := Lib.hid hv; clear hv
        go_wp2_with (fail)
        refine (sOpValidO _ c (4, on, ar) _ ((OP_0.out.past (A3.out.set (a := ⟨w2.heap.size, 2, none⟩) (by first | omega | (simp only [szA, szS, szD, World.heap_drewN] at * <;> omega)) (.int .i64 ar)).g hlo).row)).mono ?_
        rw [HV.out]
        rintro e w4 ⟨rfl, hb⟩
        have A4 := Lib.hid (Dr.below (A3.out.set (a := ⟨w2.heap.size, 2, none⟩) (by first | omega | (simp only [szA, szS, szD, World.heap_drewN] at * <;> omega)) (.int .i64 ar)) hb)
        have Z4 := hb.size
        have N4 : w3.heap.size ≤ w4.heap.size := (by first | with_reducible exact Z4 | (simp only [szA, szS, szD] at Z4; omega))
        clear Z4
        have Xp_4 := Lib.hid (below_at hb (set_off (a := ⟨w2.heap.size, 2, none⟩) Xp_3.out (by first | omega | (simp only [szA, szS, szD, World.heap_drewN] at * <;> omega)) (.int .i64 ar)))
        have Xres_4 := Lib.hid (below_at hb (set_off (a := ⟨w2.heap.size, 2, none⟩) Xres_3.out (by first | omega | (simp only [szA, szS, szD, World.heap_drewN] at * <;> omega)) (.int .i64 ar)))
        have Xo_4 := Lib.hid (below_at hb (set_at (a := ⟨w2.heap.size, 2, none⟩) Xo_3.out rfl rfl (.int .i64 ar)))
        clear hb
        obtain ⟨cp4_0, cp4_1, cp4_2, cp4_3, cp4_4, fp4_0, fp4_1, fp4_2, fp4_3, fp4_4⟩ := box5 Xp_4.out; have lp4 := heap_lt Xp_4.out
        obtain ⟨cres4_0, cres4_1, cres4_2, fres4_0, fres4_1, fres4_2⟩ := box3 Xres_4.out; have lres4 := heap_lt Xres_4.out
        obtain ⟨co4_0, co4_1, co4_2, fo4_0, fo4_1, fo4_2⟩ := box3 Xo_4.out; have lo4 := heap_lt Xo_4.out
        have S4 : w.heap.size ≤ w4.heap.size := (by omega)
        clear cp3_0 cp3_1 cp3_2 cp3_3 cp3_4 fp3_0 fp3_1 fp3_2 fp3_3 fp3_4 cres3_0 cres3_1 cres3_2 fres3_0 fres3_1 fres3_2 co3_0 co3_1 co3_2 fo3_0 fo3_1 fo3_2
        cases hv : opB c (4, 0, ar)
        · have HV := Lib.hid hv; clear hv
          go_wp2_with (fail)
          refine (sOpValidO _ c (4, 0, ar) _ ((OP_0.out.past (A4.out.set (a := ⟨w2.heap.size, 1, none⟩) (by first | omega | (simp only [szA, szS, szD, World.heap_drewN] at * <;> omega)) (.int .i64 0)).g hlo).row)).mono ?_
          rw [HV.out]
          rintro e w5 ⟨rfl, hb⟩
          have A5 := Lib.hid (Dr.below (A4.out.set (a := ⟨w2.heap.size, 1, none⟩) (by first | omega | (simp only [szA, szS, szD, World.heap_drewN] at * <;> omega)) (.int .i64 0)) hb)
          have Z5 := hb.size
          have N5 : w4.heap.size ≤ w5.heap.size := (by first | with_reducible exact Z5 | (simp only [szA, szS, szD] at Z5; omega))
          clear Z5
          have Xp_5 := Lib.hid (below_at hb (set_off (a := ⟨w2.heap.size, 1, none⟩) Xp_4.out (by first | omega | (simp only [szA, szS, szD, World.heap_drewN] at * <;> omega)) (.int .i64 0)))
          have Xres_5 := Lib.hid (below_at hb (set_off (a := ⟨w2.heap.size, 1, none⟩) Xres_4.out (by first | omega | (simp only [szA, szS, szD, World.heap_drewN] at * <;> omega)) (.int .i64 0)))
          have Xo_5 := Lib.hid (below_at hb (set_at (a := ⟨w2.heap.size, 1, none⟩) Xo_4.out rfl rfl (.int .i64 0)))
          clear hb
          obtain ⟨cp5_0, cp5_1, cp5_2, cp5_3, cp5_4, fp5_0, fp5_1, fp5_2, fp5_3, fp5_4⟩ := box5 Xp_5.out; have lp5 := heap_lt Xp_5.out
          obtain ⟨cres5_0, cres5_1, cres5_2, fres5_0, fres5_1, fres5_2⟩ := box3 Xres_5.out; have lres5 := heap_lt Xres_5.out
          obtain ⟨co5_0, co5_1, co5_2, fo5_0, fo5_1, fo5_2⟩ := box3 Xo_5.out; have lo5 := heap_lt Xo_5.out
          have S5 : w.heap.size ≤ w5.heap.size := (by omega)
          clear cp4_0 cp4_1 cp4_2 cp4_3 cp4_4 fp4_0 fp4_1 fp4_2 fp4_3 fp4_4 cres4_0 cres4_1 cres4_2 fres4_0 fres4_1 fres4_2 co4_0 co4_1 co4_2 fo4_0 fo4_1 fo4_2
          go_wp2_with (fail)
          refine (pickD b (N + 3) 9 w _ A5.out (by omega) (by decide)).mono ?_
          rintro e w6 ⟨ag, rfl, hag0, hag1, hd⟩
          have A6 := Lib.hid (Dr.then A5.out hd)
          have Z6 := hd.size
          have N6 : w5.heap.size ≤ w6.heap.size := (by first | with_reducible exact Z6 | (simp only [szA, szS, szD] at Z6; omega))
          clear Z6
          have Xp_6 := Lib.hid (hd.at_ Xp_5.out (by first | omega | (simp only [szA, szS, szD, World.heap_drewN] at * <;> omega)))
          have Xres_6 := Lib.hid (hd.at_ Xres_5.out (by first | omega | (simp only [szA, szS, szD, World.heap_drewN] at * <;> omega)))
          have Xo_6 := Lib.hid (hd.at_ Xo_5.out (by first | omega | (simp only [szA, szS, szD, World.heap_drewN] at * <;> omega)))
          clear hd
          obtain ⟨cp6_0, cp6_1, cp6_2, cp6_3, cp6_4, fp6_0, fp6_1, fp6_2, fp6_3, fp6_4⟩ := box5 Xp_6.out; have lp6 := heap_lt Xp_6.out
          obtain ⟨cres6_0, cres6_1, cres6_2, fres6_0, fres6_1, fres6_2⟩ := box3 Xres_6.out; have lres6 := heap_lt Xres_6.out
          obtain ⟨co6_0, co6_1, co6_2, fo6_0, fo6_1, fo6_2⟩ := box3 Xo_6.out; have lo6 := heap_lt Xo_6.out
          have S6 : w.heap.size ≤ w6.heap.size := (by omega)
          clear cp5_0 cp5_1 cp5_2 cp5_3 cp5_4 fp5_0 fp5_1 fp5_2 fp5_3 fp5_4 cres5_0 cres5_1 cres5_2 fres5_0 fres5_1 fres5_2 co5_0 co5_1 co5_2 fo5_0 fo5_1 fo5_2
          have hag : 0 ≤ ag ∧ ag ≤ 8 := by omega
          obtain ⟨hag0, hag2⟩ := hag; clear hag1
          have ne_p_res : w.heap.size ≠ w.heap.size + 1 := by omega
          have nf_p_res := ne_p_res.symm
          have ne_p_o : w.heap.size ≠ w2.heap.size := by omega
          have nf_p_o := ne_p_o.symm
          have ne_res_o : w.heap.size + 1 ≠ w2.heap.size := by omega
          have nf_res_o := ne_res_o.symm
          go_wp2_with (fail)
          refine bodyPost_ret (v := .agg #[.int .i64 1, .int .i64 0, .int .i64 ag]) (by simp [results, Tryd.results26, go_sem, cres6_0, cres6_1, cres6_2, lres6, co6_0, co6_1, co6_2, lo6, ne_p_res, nf_p_res, ne_p_o, nf_p_o, ne_res_o, nf_res_o]) rfl ⟨(1, 0, ag), rfl, (by unfold opSmall Kd; dsimp only; omega), (((A6.out.set (a := ⟨w.heap.size + 1, 0, none⟩) (by first | omega | (simp only [szA, szS, szD, World.heap_drewN] at * <;> omega)) (.int .i64 1)).set (a := ⟨w.heap.size + 1, 1, none⟩) (by first | omega | (simp only [szA, szS, szD, World.heap_drewN] at * <;> omega)) (.int .i64 0)).set (a := ⟨w.heap.size + 1, 2, none⟩) (by first | omega | (simp only [szA, szS, szD, World.heap_drewN] at * <;> omega)) (.int .i64 ag)).mono (by omega)⟩
        · have HV := Lib.hid hv; clear hv
          go_wp2_with (fail)
          refine (sOpValidO _ c (4, 0, ar) _ ((OP_0.out.past (A4.out.set (a := ⟨w2.heap.size, 1, none⟩) (by first | omega | (simp only [szA, szS, szD, World.heap_drewN] at * <;> omega)) (.int .i64 0)).g hlo).row)).mono ?_
          rw [HV.out]
          rintro e w5 ⟨rfl, hb⟩
          have A5 := Lib.hid (Dr.below (A4.out.set (a := ⟨w2.heap.size, 1, none⟩) (by first | omega | (simp only [szA, szS, szD, World.heap_drewN] at * <;> omega)) (.int .i64 0)) hb)
          have Z5 := hb.size
          have N5 : w4.heap.size ≤ w5.heap.size := (by first | with_reducible exact Z5 | (simp only [szA, szS, szD] at Z5; omega))
          clear Z5
          have Xp_5 := Lib.hid (below_at hb (set_off (a := ⟨w2.heap.size, 1, none⟩) Xp_4.out (by first | omega | (simp only [szA, szS, szD, World.heap_drewN] at * <;> omega)) (.int .i64 0)))
          have Xres_5 := Lib.hid (below_at hb (set_off (a := ⟨w2.heap.size, 1, none⟩) Xres_4.out (by first | omega | (simp only [szA, szS, szD, World.heap_drewN] at * <;> omega)) (.int .i64 0)))
          have Xo_5 := Lib.hid (below_at hb (set_at (a := ⟨w2.heap.size, 1, none⟩) Xo_4.out rfl rfl (.int .i64 0)))
          clear hb
          obtain ⟨cp5_0, cp5_1, cp5_2, cp5_3, cp5_4, fp5_0, fp5_1, fp5_2, fp5_3, fp5_4⟩ := box5 Xp_5.out; have lp5 := heap_lt Xp_5.out
          obtain ⟨cres5_0, cres5_1, cres5_2, fres5_0, fres5_1, fres5_2⟩ := box3 Xres_5.out; have lres5 := heap_lt Xres_5.out
          obtain ⟨co5_0, co5_1, co5_2, fo5_0, fo5_1, fo5_2⟩ := box3 Xo_5.out; have lo5 := heap_lt Xo_5.out
          have S5 : w.heap.size ≤ w5.heap.size := (by omega)
          clear cp4_0 cp4_1 cp4_2 cp4_3 cp4_4 fp4_0 fp4_1 fp4_2 fp4_3 fp4_4 cres4_0 cres4_1 cres4_2 fres4_0 fres4_1 fres4_2 co4_0 co4_1 co4_2 fo4_0 fo4_1 fo4_2
          have ne_p_res : w.heap.size ≠ w.heap.size + 1 := by omega
          have nf_p_res := ne_p_res.symm
          have ne_p_o : w.heap.size ≠ w2.heap.size := by omega
          have nf_p_o := ne_p_o.symm
          have ne_res_o : w.heap.size + 1 ≠ w2.heap.size := by omega
          have nf_res_o := ne_res_o.symm
          go_wp2_with (fail)
          refine bodyPost_ret (v := .agg #[.int .i64 4, .int .i64 0, .int .i64 ar]) (by simp [results, Tryd.results26, go_sem, cres5_0, cres5_1, cres5_2, lres5, co5_0, co5_1, co5_2, lo5, ne_p_res, nf_p_res, ne_p_o, nf_p_o, ne_res_o, nf_res_o]) rfl ⟨(4, 0, ar), rfl, (by unfold opSmall Kd; dsimp only; omega), (((A5.out.set (a := ⟨w.heap.size + 1, 0, none⟩) (by first | omega | (simp only [szA, szS, szD, World.heap_drewN] at * <;> omega)) (.int .i64 4)).set (a := ⟨w.heap.size + 1, 1, none⟩) (by first | omega | (simp only [szA, szS, szD, World.heap_drewN] at * <;> omega)) (.int .i64 0)).set (a := ⟨w.heap.size + 1, 2, none⟩) (by first | omega | (simp only [szA, szS, szD, World.heap_drewN] at * <;> omega)) (.int .i64 ar)).mono (by omega)⟩
      · have HV := Lib.hid hv; clear hv
        go_wp2_with (fail)
        refine (sOpValidO _ c (4, on, ar) _ ((OP_0.out.past (A3.out.set (a := ⟨w2.heap.size, 2, none⟩) (by first | omega | (simp only [szA, szS, szD, World.heap_drewN] at * <;> omega)) (.int .i64 ar)).g hlo).row)).mono ?_
        rw [HV.out]
        rintro e w4 ⟨rfl, hb⟩
        have A4 := Lib.hid (Dr.below (A3.out.set (a := ⟨w2.heap.size, 2, none⟩) (by first | omega | (simp only [szA, szS, szD, World.heap_drewN] at * <;> omega)) (.int .i64 ar)) hb)
        have Z4 := hb.size
        have N4 : w3.heap.size ≤ w4.heap.size := (by first | with_reducible exact Z4 | (simp only [szA, szS, szD] at Z4; omega))
        clear Z4
        have Xp_4 := Lib.hid (below_at hb (set_off (a := ⟨w2.heap.size, 2, none⟩) Xp_3.out (by first | omega | (simp only [szA, szS, szD, World.heap_drewN] at * <;> omega)) (.int .i64 ar)))
        have Xres_4 := Lib.hid (below_at hb (set_off (a := ⟨w2.heap.size, 2, none⟩) Xres_3.out (by first | omega | (simp only [szA, szS, szD, World.heap_drewN] at * <;> omega)) (.int .i64 ar)))
        have Xo_4 := Lib.hid (below_at hb (set_at (a := ⟨w2.heap.size, 2, none⟩) Xo_3.out rfl rfl (.int .i64 ar)))
        clear hb
        obtain ⟨cp4_0, cp4_1, cp4_2, cp4_3, cp4_4, fp4_0, fp4_1, fp4_2, fp4_3, fp4_4⟩ := box5 Xp_4.out; have lp4 := heap_lt Xp_4.out
        obtain ⟨cres4_0, cres4_1, cres4_2, fres4_0, fres4_1, fres4_2⟩ := box3 Xres_4.out; have lres4 := heap_lt Xres_4.out
        obtain ⟨co4_0, co4_1, co4_2, fo4_0, fo4_1, fo4_2⟩ := box3 Xo_4.out; have lo4 := heap_lt Xo_4.out
        have S4 : w.heap.size ≤ w4.heap.size := (by omega)
        clear cp3_0 cp3_1 cp3_2 cp3_3 cp3_4 fp3_0 fp3_1 fp3_2 fp3_3 fp3_4 cres3_0 cres3_1 cres3_2 fres3_0 fres3_1 fres3_2 co3_0 co3_1 co3_2 fo3_0 fo3_1 fo3_2
        go_wp2_with (fail)
        refine (sOpValidO _ c (4, on, ar) _ ((OP_0.out.past A4.out.g hlo).row)).mono ?_
        rw [HV.out]
        rintro e w5 ⟨rfl, hb⟩
        have A5 := Lib.hid (Dr.below A4.out hb)
        have Z5 := hb.size
        have N5 : w4.heap.size ≤ w5.heap.size := (by first | with_reducible exact Z5 | (simp only [szA, szS, szD] at Z5; omega))
        clear Z5
        have Xp_5 := Lib.hid (below_at hb Xp_4.out)
        have Xres_5 := Lib.hid (below_at hb Xres_4.out)
        have Xo_5 := Lib.hid (below_at hb Xo_4.out)
        clear hb
        obtain ⟨cp5_0, cp5_1, cp5_2, cp5_3, cp5_4, fp5_0, fp5_1, fp5_2, fp5_3, fp5_4⟩ := box5 Xp_5.out; have lp5 := heap_lt Xp_5.out
        obtain ⟨cres5_0, cres5_1, cres5_2, fres5_0, fres5_1, fres5_2⟩ := box3 Xres_5.out; have lres5 := heap_lt Xres_5.out
        obtain ⟨co5_0, co5_1, co5_2, fo5_0, fo5_1, fo5_2⟩ := box3 Xo_5.out; have lo5 := heap_lt Xo_5.out
        have S5 : w.heap.size ≤ w5.heap.size := (by omega)
        clear cp4_0 cp4_1 cp4_2 cp4_3 cp4_4 fp4_0 fp4_1 fp4_2 fp4_3 fp4_4 cres4_0 cres4_1 cres4_2 fres4_0 fres4_1 fres4_2 co4_0 co4_1 co4_2 fo4_0 fo4_1 fo4_2
        have ne_p_res : w.heap.size ≠ w.heap.size + 1 := by omega
        have nf_p_res := ne_p_res.symm
        have ne_p_o : w.heap.size ≠ w2.heap.size := by omega
        have nf_p_o := ne_p_o.symm
        have ne_res_o : w.heap.size + 1 ≠ w2.heap.size := by omega
        have nf_res_o := ne_res_o.symm
        go_wp2_with (fail)
        refine bodyPost_ret (v := .agg #[.int .i64 4, .int .i64 on, .int .i64 ar]) (by simp [results, Tryd.results26, go_sem, cres5_0, cres5_1, cres5_2, lres5, co5_0, co5_1, co5_2, lo5, ne_p_res, nf_p_res, ne_p_o, nf_p_o, ne_res_o, nf_res_o]) rfl ⟨(4, on, ar), rfl, (by unfold opSmall Kd; dsimp only; omega), (((A5.out.set (a := ⟨w.heap.size + 1, 0, none⟩) (by first | omega | (simp only [szA, szS, szD, World.heap_drewN] at * <;> omega)) (.int .i64 4)).set (a := ⟨w.heap.size + 1, 1, none⟩) (by first | omega | (simp only [szA, szS, szD, World.heap_drewN] at * <;> omega)) (.int .i64 on)).set (a := ⟨w.heap.size + 1, 2, none⟩) (by first | omega | (simp only [szA, szS, szD, World.heap_drewN] at * <;> omega)) (.int .i64 ar)).mono (by omega)⟩
    · go_wp2_with (fail)
      refine (numD b (N + 2) _ [-1, 1, -2] w _ ((A2.out.alloc _).alloc _) (by omega) (lit_row _ (by decide) rfl rfl (by first | omega | (simp only [szA, szS, szD, World.heap_drewN] at * <;> omega))) (by decide) (by simp [Value.ownBlock]; omega)).mono ?_
      rintro e w3 ⟨ar, rfl, har, hd⟩
      have A3 := Lib.hid (Dr.then ((A2.out.alloc _).alloc _) hd)
      have Z3 := hd.size
      have N3 : w2.heap.size + 2 ≤ w3.heap.size := (by first | with_reducible exact Z3 | (simp only [szA, szS, szD] at Z3; omega))
      clear Z3
      have Xp_3 := Lib.hid (hd.at_ (heap_up (heap_up Xp_2.out)) (by first | omega | (simp only [szA, szS, szD, World.heap_drewN] at * <;> omega)))
      have Xres_3 := Lib.hid (hd.at_ (heap_up (heap_up Xres_2.out)) (by first | omega | (simp only [szA, szS, szD, World.heap_drewN] at * <;> omega)))
      have Xo_3 : Hid (w3.heap[w2.heap.size]? = some (.cells #[.int .i64 5, .int .i64 on, .int .i64 0] 23 (0, 0))) := hd.at_ (heap_up (heap_at' (n := w2.heap.size) (by first | omega | (simp only [szA, szS, szD, World.heap_drewN] at * <;> omega)))) (by first | omega | (simp only [szA, szS, szD, World.heap_drewN] at * <;> omega))
      clear hd
      obtain ⟨cp3_0, cp3_1, cp3_2, cp3_3, cp3_4, fp3_0, fp3_1, fp3_2, fp3_3, fp3_4⟩ := box5 Xp_3.out; have lp3 := heap_lt Xp_3.out
      obtain ⟨cres3_0, cres3_1, cres3_2, fres3_0, fres3_1, fres3_2⟩ := box3 Xres_3.out; have lres3 := heap_lt Xres_3.out
      obtain ⟨co3_0, co3_1, co3_2, fo3_0, fo3_1, fo3_2⟩ := box3 Xo_3.out; have lo3 := heap_lt Xo_3.out
      have S3 : w.heap.size ≤ w3.heap.size := (by omega)
      clear cp2_0 cp2_1 cp2_2 cp2_3 cp2_4 fp2_0 fp2_1 fp2_2 fp2_3 fp2_4 cres2_0 cres2_1 cres2_2 fres2_0 fres2_1 fres2_2
      have harb : -2 ≤ ar ∧ ar ≤ 1 := by simp at har; omega
      obtain ⟨har0, har1⟩ := harb; clear har
      cases hv : opB c (5, on, ar)
      · have HV := Lib.hid hv; clear hv
        go_wp2_with (fail)
        refine (sOpValidO _ c (5, on, ar) _ ((OP_0.out.past (A3.out.set (a := ⟨w2.heap.size, 2, none⟩) (by first | omega | (simp only [szA, szS, szD, World.heap_drewN] at * <;> omega)) (.int .i64 ar)).g hlo).row)).mono ?_
        rw [HV.out]
        rintro e w4 ⟨rfl, hb⟩
        have A4 := Lib.hid (Dr.below (A3.out.set (a := ⟨w2.heap.size, 2, none⟩) (by first | omega | (simp only [szA, szS, szD, World.heap_drewN] at * <;> omega)) (.int .i64 ar)) hb)
        have Z4 := hb.size
        have N4 : w3.heap.size ≤ w4.heap.size := (by first | with_reducible exact Z4 | (simp only [szA, szS, szD] at Z4; omega))
        clear Z4
        have Xp_4 := Lib.hid (below_at hb (set_off (a := ⟨w2.heap.size, 2, none⟩) Xp_3.out (by first | omega | (simp only [szA, szS, szD, World.heap_drewN] at * <;> omega)) (.int .i64 ar)))
        have Xres_4 := Lib.hid (below_at hb (set_off (a := ⟨w2.heap.size, 2, none⟩) Xres_3.out (by first | omega | (simp only [szA, szS, szD, World.heap_drewN] at * <;> omega)) (.int .i64 ar)))
        have Xo_4 := Lib.hid (below_at hb (set_at (a := ⟨w2.heap.size, 2, none⟩) Xo_3.out rfl rfl (.int .i64 ar)))
        clear hb
        obtain ⟨cp4_0, cp4_1, cp4_2, cp4_3, cp4_4, fp4_0, fp4_1, fp4_2, fp4_3, fp4_4⟩ := box5 Xp_4.out; have lp4 := heap_lt Xp_4.out
        obtain ⟨cres4_0, cres4_1, cres4_2, fres4_0, fres4_1, fres4_2⟩ := box3 Xres_4.out; have lres4 := heap_lt Xres_4.out
        obtain ⟨co4_0, co4_1, co4_2, fo4_0, fo4_1, fo4_2⟩ := box3 Xo_4.out; have lo4 := heap_lt Xo_4.out
        have S4 : w.heap.size ≤ w4.heap.size := (by omega)
        clear cp3_0 cp3_1 cp3_2 cp3_3 cp3_4 fp3_0 fp3_1 fp3_2 fp3_3 fp3_4 cres3_0 cres3_1 cres3_2 fres3_0 fres3_1 fres3_2 co3_0 co3_1 co3_2 fo3_0 fo3_1 fo3_2
        cases hv : opB c (5, 0, ar)
        · have HV := Lib.hid hv; clear hv
          go_wp2_with (fail)
          refine (sOpValidO _ c (5, 0, ar) _ ((OP_0.out.past (A4.out.set (a := ⟨w2.heap.size, 1, none⟩) (by first | omega | (simp only [szA, szS, szD, World.heap_drewN] at * <;> omega)) (.int .i64 0)).g hlo).row)).mono ?_
          rw [HV.out]
          rintro e w5 ⟨rfl, hb⟩
          have A5 := Lib.hid (Dr.below (A4.out.set (a := ⟨w2.heap.size, 1, none⟩) (by first | omega | (simp only [szA, szS, szD, World.heap_drewN] at * <;> omega)) (.int .i64 0)) hb)
          have Z5 := hb.size
          have N5 : w4.heap.size ≤ w5.heap.size := (by first | with_reducible exact Z5 | (simp only [szA, szS, szD] at Z5; omega))
          clear Z5
          have Xp_5 := Lib.hid (below_at hb (set_off (a := ⟨w2.heap.size, 1, none⟩) Xp_4.out (by first | omega | (simp only [szA, szS, szD, World.heap_drewN] at * <;> omega)) (.int .i64 0)))
          have Xres_5 := Lib.hid (below_at hb (set_off (a := ⟨w2.heap.size, 1, none⟩) Xres_4.out (by first | omega | (simp only [szA, szS, szD, World.heap_drewN] at * <;> omega)) (.int .i64 0)))
          have Xo_5 := Lib.hid (below_at hb (set_at (a := ⟨w2.heap.size, 1, none⟩) Xo_4.out rfl rfl (.int .i64 0)))
          clear hb
          obtain ⟨cp5_0, cp5_1, cp5_2, cp5_3, cp5_4, fp5_0, fp5_1, fp5_2, fp5_3, fp5_4⟩ := box5 Xp_5.out; have lp5 := heap_lt Xp_5.out
          obtain ⟨cres5_0, cres5_1, cres5_2, fres5_0, fres5_1, fres5_2⟩ := box3 Xres_5.out; have lres5 := heap_lt Xres_5.out
          obtain ⟨co5_0, co5_1, co5_2, fo5_0, fo5_1, fo5_2⟩ := box3 Xo_5.out; have lo5 := heap_lt Xo_5.out
          have S5 : w.heap.size ≤ w5.heap.size := (by omega)
          clear cp4_0 cp4_1 cp4_2 cp4_3 cp4_4 fp4_0 fp4_1 fp4_2 fp4_3 fp4_4 cres4_0 cres4_1 cres4_2 fres4_0 fres4_1 fres4_2 co4_0 co4_1 co4_2 fo4_0 fo4_1 fo4_2
          go_wp2_with (fail)
          refine (pickD b (N + 3) 9 w _ A5.out (by omega) (by decide)).mono ?_
          rintro e w6 ⟨ag, rfl, hag0, hag1, hd⟩
          have A6 := Lib.hid (Dr.then A5.out hd)
          have Z6 := hd.size
          have N6 : w5.heap.size ≤ w6.heap.size := (by first | with_reducible exact Z6 | (simp only [szA, szS, szD] at Z6; omega))
          clear Z6
          have Xp_6 := Lib.hid (hd.at_ Xp_5.out (by first | omega | (simp only [szA, szS, szD, World.heap_drewN] at * <;> omega)))
          have Xres_6 := Lib.hid (hd.at_ Xres_5.out (by first | omega | (simp only [szA, szS, szD, World.heap_drewN] at * <;> omega)))
          have Xo_6 := Lib.hid (hd.at_ Xo_5.out (by first | omega | (simp only [szA, szS, szD, World.heap_drewN] at * <;> omega)))
          clear hd
          obtain ⟨cp6_0, cp6_1, cp6_2, cp6_3, cp6_4, fp6_0, fp6_1, fp6_2, fp6_3, fp6_4⟩ := box5 Xp_6.out; have lp6 := heap_lt Xp_6.out
          obtain ⟨cres6_0, cres6_1, cres6_2, fres6_0, fres6_1, fres6_2⟩ := box3 Xres_6.out; have lres6 := heap_lt Xres_6.out
          obtain ⟨co6_0, co6_1, co6_2, fo6_0, fo6_1, fo6_2⟩ := box3 Xo_6.out; have lo6 := heap_lt Xo_6.out
          have S6 : w.heap.size ≤ w6.heap.size := (by omega)
          clear cp5_0 cp5_1 cp5_2 cp5_3 cp5_4 fp5_0 fp5_1 fp5_2 fp5_3 fp5_4 cres5_0 cres5_1 cres5_2 fres5_0 fres5_1 fres5_2 co5_0 co5_1 co5_2 fo5_0 fo5_1 fo5_2
          have hag : 0 ≤ ag ∧ ag ≤ 8 := by omega
          obtain ⟨hag0, hag2⟩ := hag; clear hag1
          have ne_p_res : w.heap.size ≠ w.heap.size + 1 := by omega
          have nf_p_res := ne_p_res.symm
          have ne_p_o : w.heap.size ≠ w2.heap.size := by omega
          have nf_p_o := ne_p_o.symm
          have ne_res_o : w.heap.size + 1 ≠ w2.heap.size := by omega
          have nf_res_o := ne_res_o.symm
          go_wp2_with (fail)
          refine bodyPost_ret (v := .agg #[.int .i64 1, .int .i64 0, .int .i64 ag]) (by simp [results, Tryd.results26, go_sem, cres6_0, cres6_1, cres6_2, lres6, co6_0, co6_1, co6_2, lo6, ne_p_res, nf_p_res, ne_p_o, nf_p_o, ne_res_o, nf_res_o]) rfl ⟨(1, 0, ag), rfl, (by unfold opSmall Kd; dsimp only; omega), (((A6.out.set (a := ⟨w.heap.size + 1, 0, none⟩) (by first | omega | (simp only [szA, szS, szD, World.heap_drewN] at * <;> omega)) (.int .i64 1)).set (a := ⟨w.heap.size + 1, 1, none⟩) (by first | omega | (simp only [szA, szS, szD, World.heap_drewN] at * <;> omega)) (.int .i64 0)).set (a := ⟨w.heap.size + 1, 2, none⟩) (by first | omega | (simp only [szA, szS, szD, World.heap_drewN] at * <;> omega)) (.int .i64 ag)).mono (by omega)⟩
        · have HV := Lib.hid hv; clear hv
          go_wp2_with (fail)
          refine (sOpValidO _ c (5, 0, ar) _ ((OP_0.out.past (A4.out.set (a := ⟨w2.heap.size, 1, none⟩) (by first | omega | (simp only [szA, szS, szD, World.heap_drewN] at * <;> omega)) (.int .i64 0)).g hlo).row)).mono ?_
          rw [HV.out]
          rintro e w5 ⟨rfl, hb⟩
          have A5 := Lib.hid (Dr.below (A4.out.set (a := ⟨w2.heap.size, 1, none⟩) (by first | omega | (simp only [szA, szS, szD, World.heap_drewN] at * <;> omega)) (.int .i64 0)) hb)
          have Z5 := hb.size
          have N5 : w4.heap.size ≤ w5.heap.size := (by first | with_reducible exact Z5 | (simp only [szA, szS, szD] at Z5; omega))
          clear Z5
          have Xp_5 := Lib.hid (below_at hb (set_off (a := ⟨w2.heap.size, 1, none⟩) Xp_4.out (by first | omega | (simp only [szA, szS, szD, World.heap_drewN] at * <;> omega)) (.int .i64 0)))
          have Xres_5 := Lib.hid (below_at hb (set_off (a := ⟨w2.heap.size, 1, none⟩) Xres_4.out (by first | omega | (simp only [szA, szS, szD, World.heap_drewN] at * <;> omega)) (.int .i64 0)))
          have Xo_5 := Lib.hid (below_at hb (set_at (a := ⟨w2.heap.size, 1, none⟩) Xo_4.out rfl rfl (.int .i64 0)))
          clear hb
          obtain ⟨cp5_0, cp5_1, cp5_2, cp5_3, cp5_4, fp5_0, fp5_1, fp5_2, fp5_3, fp5_4⟩ := box5 Xp_5.out; have lp5 := heap_lt Xp_5.out
          obtain ⟨cres5_0, cres5_1, cres5_2, fres5_0, fres5_1, fres5_2⟩ := box3 Xres_5.out; have lres5 := heap_lt Xres_5.out
          obtain ⟨co5_0, co5_1, co5_2, fo5_0, fo5_1, fo5_2⟩ := box3 Xo_5.out; have lo5 := heap_lt Xo_5.out
          have S5 : w.heap.size ≤ w5.heap.size := (by omega)
          clear cp4_0 cp4_1 cp4_2 cp4_3 cp4_4 fp4_0 fp4_1 fp4_2 fp4_3 fp4_4 cres4_0 cres4_1 cres4_2 fres4_0 fres4_1 fres4_2 co4_0 co4_1 co4_2 fo4_0 fo4_1 fo4_2
          have ne_p_res : w.heap.size ≠ w.heap.size + 1 := by omega
          have nf_p_res := ne_p_res.symm
          have ne_p_o : w.heap.size ≠ w2.heap.size := by omega
          have nf_p_o := ne_p_o.symm
          have ne_res_o : w.heap.size + 1 ≠ w2.heap.size := by omega
          have nf_res_o := ne_res_o.symm
          go_wp2_with (fail)
          refine bodyPost_ret (v := .agg #[.int .i64 5, .int .i64 0, .int .i64 ar]) (by simp [results, Tryd.results26, go_sem, cres5_0, cres5_1, cres5_2, lres5, co5_0, co5_1, co5_2, lo5, ne_p_res, nf_p_res, ne_p_o, nf_p_o, ne_res_o, nf_res_o]) rfl ⟨(5, 0, ar), rfl, (by unfold opSmall Kd; dsimp only; omega), (((A5.out.set (a := ⟨w.heap.size + 1, 0, none⟩) (by first | omega | (simp only [szA, szS, szD, World.heap_drewN] at * <;> omega)) (.int .i64 5)).set (a := ⟨w.heap.size + 1, 1, none⟩) (by first | omega | (simp only [szA, szS, szD, World.heap_drewN] at * <;> omega)) (.int .i64 0)).set (a := ⟨w.heap.size + 1, 2, none⟩) (by first | omega | (simp only [szA, szS, szD, World.heap_drewN] at * <;> omega)) (.int .i64 ar)).mono (by omega)⟩
      · have HV := Lib.hid hv; clear hv
        go_wp2_with (fail)
        refine (sOpValidO _ c (5, on, ar) _ ((OP_0.out.past (A3.out.set (a := ⟨w2.heap.size, 2, none⟩) (by first | omega | (simp only [szA, szS, szD, World.heap_drewN] at * <;> omega)) (.int .i64 ar)).g hlo).row)).mono ?_
        rw [HV.out]
        rintro e w4 ⟨rfl, hb⟩
        have A4 := Lib.hid (Dr.below (A3.out.set (a := ⟨w2.heap.size, 2, none⟩) (by first | omega | (simp only [szA, szS, szD, World.heap_drewN] at * <;> omega)) (.int .i64 ar)) hb)
        have Z4 := hb.size
        have N4 : w3.heap.size ≤ w4.heap.size := (by first | with_reducible exact Z4 | (simp only [szA, szS, szD] at Z4; omega))
        clear Z4
        have Xp_4 := Lib.hid (below_at hb (set_off (a := ⟨w2.heap.size, 2, none⟩) Xp_3.out (by first | omega | (simp only [szA, szS, szD, World.heap_drewN] at * <;> omega)) (.int .i64 ar)))
        have Xres_4 := Lib.hid (below_at hb (set_off (a := ⟨w2.heap.size, 2, none⟩) Xres_3.out (by first | omega | (simp only [szA, szS, szD, World.heap_drewN] at * <;> omega)) (.int .i64 ar)))
        have Xo_4 := Lib.hid (below_at hb (set_at (a := ⟨w2.heap.size, 2, none⟩) Xo_3.out rfl rfl (.int .i64 ar)))
        clear hb
        obtain ⟨cp4_0, cp4_1, cp4_2, cp4_3, cp4_4, fp4_0, fp4_1, fp4_2, fp4_3, fp4_4⟩ := box5 Xp_4.out; have lp4 := heap_lt Xp_4.out
        obtain ⟨cres4_0, cres4_1, cres4_2, fres4_0, fres4_1, fres4_2⟩ := box3 Xres_4.out; have lres4 := heap_lt Xres_4.out
        obtain ⟨co4_0, co4_1, co4_2, fo4_0, fo4_1, fo4_2⟩ := box3 Xo_4.out; have lo4 := heap_lt Xo_4.out
        have S4 : w.heap.size ≤ w4.heap.size := (by omega)
        clear cp3_0 cp3_1 cp3_2 cp3_3 cp3_4 fp3_0 fp3_1 fp3_2 fp3_3 fp3_4 cres3_0 cres3_1 cres3_2 fres3_0 fres3_1 fres3_2 co3_0 co3_1 co3_2 fo3_0 fo3_1 fo3_2
        go_wp2_with (fail)
        refine (sOpValidO _ c (5, on, ar) _ ((OP_0.out.past A4.out.g hlo).row)).mono ?_
        rw [HV.out]
        rintro e w5 ⟨rfl, hb⟩
        have A5 := Lib.hid (Dr.below A4.out hb)
        have Z5 := hb.size
        have N5 : w4.heap.size ≤ w5.heap.size := (by first | with_reducible exact Z5 | (simp only [szA, szS, szD] at Z5; omega))
        clear Z5
        have Xp_5 := Lib.hid (below_at hb Xp_4.out)
        have Xres_5 := Lib.hid (below_at hb Xres_4.out)
        have Xo_5 := Lib.hid (below_at hb Xo_4.out)
        clear hb
        obtain ⟨cp5_0, cp5_1, cp5_2, cp5_3, cp5_4, fp5_0, fp5_1, fp5_2, fp5_3, fp5_4⟩ := box5 Xp_5.out; have lp5 := heap_lt Xp_5.out
        obtain ⟨cres5_0, cres5_1, cres5_2, fres5_0, fres5_1, fres5_2⟩ := box3 Xres_5.out; have lres5 := heap_lt Xres_5.out
        obtain ⟨co5_0, co5_1, co5_2, fo5_0, fo5_1, fo5_2⟩ := box3 Xo_5.out; have lo5 := heap_lt Xo_5.out
        have S5 : w.heap.size ≤ w5.heap.size := (by omega)
        clear cp4_0 cp4_1 cp4_2 cp4_3 cp4_4 fp4_0 fp4_1 fp4_2 fp4_3 fp4_4 cres4_0 cres4_1 cres4_2 fres4_0 fres4_1 fres4_2 co4_0 co4_1 co4_2 fo4_0 fo4_1 fo4_2
        have ne_p_res : w.heap.size ≠ w.heap.size + 1 := by omega
        have nf_p_res := ne_p_res.symm
        have ne_p_o : w.heap.size ≠ w2.heap.size := by omega
        have nf_p_o := ne_p_o.symm
        have ne_res_o : w.heap.size + 1 ≠ w2.heap.size := by omega
        have nf_res_o := ne_res_o.symm
        go_wp2_with (fail)
        refine bodyPost_ret (v := .agg #[.int .i64 5, .int .i64 on, .int .i64 ar]) (by simp [results, Tryd.results26, go_sem, cres5_0, cres5_1, cres5_2, lres5, co5_0, co5_1, co5_2, lo5, ne_p_res, nf_p_res, ne_p_o, nf_p_o, ne_res_o, nf_res_o]) rfl ⟨(5, on, ar), rfl, (by unfold opSmall Kd; dsimp only; omega), (((A5.out.set (a := ⟨w.heap.size + 1, 0, none⟩) (by first | omega | (simp only [szA, szS, szD, World.heap_drewN] at * <;> omega)) (.int .i64 5)).set (a := ⟨w.heap.size + 1, 1, none⟩) (by first | omega | (simp only [szA, szS, szD, World.heap_drewN] at * <;> omega)) (.int .i64 on)).set (a := ⟨w.heap.size + 1, 2, none⟩) (by first | omega | (simp only [szA, szS, szD, World.heap_drewN] at * <;> omega)) (.int .i64 ar)).mono (by omega)⟩
    · go_wp2_with (fail)
      refine (numD b (N + 2) _ [7, 1, 2, 99] w _ ((A2.out.alloc _).alloc _) (by omega) (lit_row _ (by decide) rfl rfl (by first | omega | (simp only [szA, szS, szD, World.heap_drewN] at * <;> omega))) (by decide) (by simp [Value.ownBlock]; omega)).mono ?_
      rintro e w3 ⟨ar, rfl, har, hd⟩
      have A3 := Lib.hid (Dr.then ((A2.out.alloc _).alloc _) hd)
      have Z3 := hd.size
      have N3 : w2.heap.size + 2 ≤ w3.heap.size := (by first | with_reducible exact Z3 | (simp only [szA, szS, szD] at Z3; omega))
      clear Z3
      have Xp_3 := Lib.hid (hd.at_ (heap_up (heap_up Xp_2.out)) (by first | omega | (simp only [szA, szS, szD, World.heap_drewN] at * <;> omega)))
      have Xres_3 := Lib.hid (hd.at_ (heap_up (heap_up Xres_2.out)) (by first | omega | (simp only [szA, szS, szD, World.heap_drewN] at * <;> omega)))
      have Xo_3 : Hid (w3.heap[w2.heap.size]? = some (.cells #[.int .i64 8, .int .i64 on, .int .i64 0] 23 (0, 0))) := hd.at_ (heap_up (heap_at' (n := w2.heap.size) (by first | omega | (simp only [szA, szS, szD, World.heap_drewN] at * <;> omega)))) (by first | omega | (simp only [szA, szS, szD, World.heap_drewN] at * <;> omega))
      clear hd
      obtain ⟨cp3_0, cp3_1, cp3_2, cp3_3, cp3_4, fp3_0, fp3_1, fp3_2, fp3_3, fp3_4⟩ := box5 Xp_3.out; have lp3 := heap_lt Xp_3.out
      obtain ⟨cres3_0, cres3_1, cres3_2, fres3_0, fres3_1, fres3_2⟩ := box3 Xres_3.out; have lres3 := heap_lt Xres_3.out
      obtain ⟨co3_0, co3_1, co3_2, fo3_0, fo3_1, fo3_2⟩ := box3 Xo_3.out; have lo3 := heap_lt Xo_3.out
      have S3 : w.heap.size ≤ w3.heap.size := (by omega)
      clear cp2_0 cp2_1 cp2_2 cp2_3 cp2_4 fp2_0 fp2_1 fp2_2 fp2_3 fp2_4 cres2_0 cres2_1 cres2_2 fres2_0 fres2_1 fres2_2
      have harb : 1 ≤ ar ∧ ar ≤ 99 := by simp at har; omega
      obtain ⟨har0, har1⟩ := harb; clear har
      cases hv : opB c (8, on, ar)
      · have HV := Lib.hid hv; clear hv
        go_wp2_with (fail)
        refine (sOpValidO _ c (8, on, ar) _ ((OP_0.out.past (A3.out.set (a := ⟨w2.heap.size, 2, none⟩) (by first | omega | (simp only [szA, szS, szD, World.heap_drewN] at * <;> omega)) (.int .i64 ar)).g hlo).row)).mono ?_
        rw [HV.out]
        rintro e w4 ⟨rfl, hb⟩
        have A4 := Lib.hid (Dr.below (A3.out.set (a := ⟨w2.heap.size, 2, none⟩) (by first | omega | (simp only [szA, szS, szD, World.heap_drewN] at * <;> omega)) (.int .i64 ar)) hb)
        have Z4 := hb.size
        have N4 : w3.heap.size ≤ w4.heap.size := (by first | with_reducible exact Z4 | (simp only [szA, szS, szD] at Z4; omega))
        clear Z4
        have Xp_4 := Lib.hid (below_at hb (set_off (a := ⟨w2.heap.size, 2, none⟩) Xp_3.out (by first | omega | (simp only [szA, szS, szD, World.heap_drewN] at * <;> omega)) (.int .i64 ar)))
        have Xres_4 := Lib.hid (below_at hb (set_off (a := ⟨w2.heap.size, 2, none⟩) Xres_3.out (by first | omega | (simp only [szA, szS, szD, World.heap_drewN] at * <;> omega)) (.int .i64 ar)))
        have Xo_4 := Lib.hid (below_at hb (set_at (a := ⟨w2.heap.size, 2, none⟩) Xo_3.out rfl rfl (.int .i64 ar)))
        clear hb
        obtain ⟨cp4_0, cp4_1, cp4_2, cp4_3, cp4_4, fp4_0, fp4_1, fp4_2, fp4_3, fp4_4⟩ := box5 Xp_4.out; have lp4 := heap_lt Xp_4.out
        obtain ⟨cres4_0, cres4_1, cres4_2, fres4_0, fres4_1, fres4_2⟩ := box3 Xres_4.out; have lres4 := heap_lt Xres_4.out
        obtain ⟨co4_0, co4_1, co4_2, fo4_0, fo4_1, fo4_2⟩ := box3 Xo_4.out; have lo4 := heap_lt Xo_4.out
        have S4 : w.heap.size ≤ w4.heap.size := (by omega)
        clear cp3_0 cp3_1 cp3_2 cp3_3 cp3_4 fp3_0 fp3_1 fp3_2 fp3_3 fp3_4 cres3_0 cres3_1 cres3_2 fres3_0 fres3_1 fres3_2 co3_0 co3_1 co3_2 fo3_0 fo3_1 fo3_2
        cases hv : opB c (8, 0, ar)
        · have HV := Lib.hid hv; clear hv
          go_wp2_with (fail)
          refine (sOpValidO _ c (8, 0, ar) _ ((OP_0.out.past (A4.out.set (a := ⟨w2.heap.size, 1, none⟩) (by first | omega | (simp only [szA, szS, szD, World.heap_drewN] at * <;> omega)) (.int .i64 0)).g hlo).row)).mono ?_
          rw [HV.out]
          rintro e w5 ⟨rfl, hb⟩
          have A5 := Lib.hid (Dr.below (A4.out.set (a := ⟨w2.heap.size, 1, none⟩) (by first | omega | (simp only [szA, szS, szD, World.heap_drewN] at * <;> omega)) (.int .i64 0)) hb)
          have Z5 := hb.size
          have N5 : w4.heap.size ≤ w5.heap.size := (by first | with_reducible exact Z5 | (simp only [szA, szS, szD] at Z5; omega))
          clear Z5
          have Xp_5 := Lib.hid (below_at hb (set_off (a := ⟨w2.heap.size, 1, none⟩) Xp_4.out (by first | omega | (simp only [szA, szS, szD, World.heap_drewN] at * <;> omega)) (.int .i64 0)))
          have Xres_5 := Lib.hid (below_at hb (set_off (a := ⟨w2.heap.size, 1, none⟩) Xres_4.out (by first | omega | (simp only [szA, szS, szD, World.heap_drewN] at * <;> omega)) (.int .i64 0)))
          have Xo_5 := Lib.hid (below_at hb (set_at (a := ⟨w2.heap.size, 1, none⟩) Xo_4.out rfl rfl (.int .i64 0)))
          clear hb
          obtain ⟨cp5_0, cp5_1, cp5_2, cp5_3, cp5_4, fp5_0, fp5_1, fp5_2, fp5_3, fp5_4⟩ := box5 Xp_5.out; have lp5 := heap_lt Xp_5.out
          obtain ⟨cres5_0, cres5_1, cres5_2, fres5_0, fres5_1, fres5_2⟩ := box3 Xres_5.out; have lres5 := heap_lt Xres_5.out
          obtain ⟨co5_0, co5_1, co5_2, fo5_0, fo5_1, fo5_2⟩ := box3 Xo_5.out; have lo5 := heap_lt Xo_5.out
          have S5 : w.heap.size ≤ w5.heap.size := (by omega)
          clear cp4_0 cp4_1 cp4_2 cp4_3 cp4_4 fp4_0 fp4_1 fp4_2 fp4_3 fp4_4 cres4_0 cres4_1 cres4_2 fres4_0 fres4_1 fres4_2 co4_0 co4_1 co4_2 fo4_0 fo4_1 fo4_2
          go_wp2_with (fail)
          refine (pickD b (N + 3) 9 w _ A5.out (by omega) (by decide)).mono ?_
          rintro e w6 ⟨ag, rfl, hag0, hag1, hd⟩
          have A6 := Lib.hid (Dr.then A5.out hd)
          have Z6 := hd.size
          have N6 : w5.heap.size ≤ w6.heap.size := (by first | with_reducible exact Z6 | (simp only [szA, szS, szD] at Z6; omega))
          clear Z6
          have Xp_6 := Lib.hid (hd.at_ Xp_5.out (by first | omega | (simp only [szA, szS, szD, World.heap_drewN] at * <;> omega)))
          have Xres_6 := Lib.hid (hd.at_ Xres_5.out (by first | omega | (simp only [szA, szS, szD, World.heap_drewN] at * <;> omega)))
          have Xo_6 := Lib.hid (hd.at_ Xo_5.out (by first | omega | (simp only [szA, szS, szD, World.heap_drewN] at * <;> omega)))
          clear hd
          obtain ⟨cp6_0, cp6_1, cp6_2, cp6_3, cp6_4, fp6_0, fp6_1, fp6_2, fp6_3, fp6_4⟩ := box5 Xp_6.out; have lp6 := heap_lt Xp_6.out
          obtain ⟨cres6_0, cres6_1, cres6_2, fres6_0, fres6_1, fres6_2⟩ := box3 Xres_6.out; have lres6 := heap_lt Xres_6.out
          obtain ⟨co6_0, co6_1, co6_2, fo6_0, fo6_1, fo6_2⟩ := box3 Xo_6.out; have lo6 := heap_lt Xo_6.out
          have S6 : w.heap.size ≤ w6.heap.size := (by omega)
          clear cp5_0 cp5_1 cp5_2 cp5_3 cp5_4 fp5_0 fp5_1 fp5_2 fp5_3 fp5_4 cres5_0 cres5_1 cres5_2 fres5_0 fres5_1 fres5_2 co5_0 co5_1 co5_2 fo5_0 fo5_1 fo5_2
          have hag : 0 ≤ ag ∧ ag ≤ 8 := by omega
          obtain ⟨hag0, hag2⟩ := hag; clear hag1
          have ne_p_res : w.heap.size ≠ w.heap.size + 1 := by omega
          have nf_p_res := ne_p_res.symm
          have ne_p_o : w.heap.size ≠ w2.heap.size := by omega
          have nf_p_o := ne_p_o.symm
          have ne_res_o : w.heap.size + 1 ≠ w2.heap.size := by omega
          have nf_res_o := ne_res_o.symm
          go_wp2_with (fail)
          refine bodyPost_ret (v := .agg #[.int .i64 1, .int .i64 0, .int .i64 ag]) (by simp [results, Tryd.results26, go_sem, cres6_0, cres6_1, cres6_2, lres6, co6_0, co6_1, co6_2, lo6, ne_p_res, nf_p_res, ne_p_o, nf_p_o, ne_res_o, nf_res_o]) rfl ⟨(1, 0, ag), rfl, (by unfold opSmall Kd; dsimp only; omega), (((A6.out.set (a := ⟨w.heap.size + 1, 0, none⟩) (by first | omega | (simp only [szA, szS, szD, World.heap_drewN] at * <;> omega)) (.int .i64 1)).set (a := ⟨w.heap.size + 1, 1, none⟩) (by first | omega | (simp only [szA, szS, szD, World.heap_drewN] at * <;> omega)) (.int .i64 0)).set (a := ⟨w.heap.size + 1, 2, none⟩) (by first | omega | (simp only [szA, szS, szD, World.heap_drewN] at * <;> omega)) (.int .i64 ag)).mono (by omega)⟩
        · have HV := Lib.hid hv; clear hv
          go_wp2_with (fail)
          refine (sOpValidO _ c (8, 0, ar) _ ((OP_0.out.past (A4.out.set (a := ⟨w2.heap.size, 1, none⟩) (by first | omega | (simp only [szA, szS, szD, World.heap_drewN] at * <;> omega)) (.int .i64 0)).g hlo).row)).mono ?_
          rw [HV.out]
          rintro e w5 ⟨rfl, hb⟩
          have A5 := Lib.hid (Dr.below (A4.out.set (a := ⟨w2.heap.size, 1, none⟩) (by first | omega | (simp only [szA, szS, szD, World.heap_drewN] at * <;> omega)) (.int .i64 0)) hb)
          have Z5 := hb.size
          have N5 : w4.heap.size ≤ w5.heap.size := (by first | with_reducible exact Z5 | (simp only [szA, szS, szD] at Z5; omega))
          clear Z5
          have Xp_5 := Lib.hid (below_at hb (set_off (a := ⟨w2.heap.size, 1, none⟩) Xp_4.out (by first | omega | (simp only [szA, szS, szD, World.heap_drewN] at * <;> omega)) (.int .i64 0)))
          have Xres_5 := Lib.hid (below_at hb (set_off (a := ⟨w2.heap.size, 1, none⟩) Xres_4.out (by first | omega | (simp only [szA, szS, szD, World.heap_drewN] at * <;> omega)) (.int .i64 0)))
          have Xo_5 := Lib.hid (below_at hb (set_at (a := ⟨w2.heap.size, 1, none⟩) Xo_4.out rfl rfl (.int .i64 0)))
          clear hb
          obtain ⟨cp5_0, cp5_1, cp5_2, cp5_3, cp5_4, fp5_0, fp5_1, fp5_2, fp5_3, fp5_4⟩ := box5 Xp_5.out; have lp5 := heap_lt Xp_5.out
          obtain ⟨cres5_0, cres5_1, cres5_2, fres5_0, fres5_1, fres5_2⟩ := box3 Xres_5.out; have lres5 := heap_lt Xres_5.out
          obtain ⟨co5_0, co5_1, co5_2, fo5_0, fo5_1, fo5_2⟩ := box3 Xo_5.out; have lo5 := heap_lt Xo_5.out
          have S5 : w.heap.size ≤ w5.heap.size := (by omega)
          clear cp4_0 cp4_1 cp4_2 cp4_3 cp4_4 fp4_0 fp4_1 fp4_2 fp4_3 fp4_4 cres4_0 cres4_1 cres4_2 fres4_0 fres4_1 fres4_2 co4_0 co4_1 co4_2 fo4_0 fo4_1 fo4_2
          have ne_p_res : w.heap.size ≠ w.heap.size + 1 := by omega
          have nf_p_res := ne_p_res.symm
          have ne_p_o : w.heap.size ≠ w2.heap.size := by omega
          have nf_p_o := ne_p_o.symm
          have ne_res_o : w.heap.size + 1 ≠ w2.heap.size := by omega
          have nf_res_o := ne_res_o.symm
          go_wp2_with (fail)
          refine bodyPost_ret (v := .agg #[.int .i64 8, .int .i64 0, .int .i64 ar]) (by simp [results, Tryd.results26, go_sem, cres5_0, cres5_1, cres5_2, lres5, co5_0, co5_1, co5_2, lo5, ne_p_res, nf_p_res, ne_p_o, nf_p_o, ne_res_o, nf_res_o]) rfl ⟨(8, 0, ar), rfl, (by unfold opSmall Kd; dsimp only; omega), (((A5.out.set (a := ⟨w.heap.size + 1, 0, none⟩) (by first | omega | (simp only [szA, szS, szD, World.heap_drewN] at * <;> omega)) (.int .i64 8)).set (a := ⟨w.heap.size + 1, 1, none⟩) (by first | omega | (simp only [szA, szS, szD, World.heap_drewN] at * <;> omega)) (.int .i64 0)).set (a := ⟨w.heap.size + 1, 2, none⟩) (by first | omega | (simp only [szA, szS, szD, World.heap_drewN] at * <;> omega)) (.int .i64 ar)).mono (by omega)⟩
      · have HV := Lib.hid hv; clear hv
        go_wp2_with (fail)
        refine (sOpValidO _ c (8, on, ar) _ ((OP_0.out.past (A3.out.set (a := ⟨w2.heap.size, 2, none⟩) (by first | omega | (simp only [szA, szS, szD, World.heap_drewN] at * <;> omega)) (.int .i64 ar)).g hlo).row)).mono ?_
        rw [HV.out]
        rintro e w4 ⟨rfl, hb⟩
        have A4 := Lib.hid (Dr.below (A3.out.set (a := ⟨w2.heap.size, 2, none⟩) (by first | omega | (simp only [szA, szS, szD, World.heap_drewN] at * <;> omega)) (.int .i64 ar)) hb)
        have Z4 := hb.size
        have N4 : w3.heap.size ≤ w4.heap.size := (by first | with_reducible exact Z4 | (simp only [szA, szS, szD] at Z4; omega))
        clear Z4
        have Xp_4 := Lib.hid (below_at hb (set_off (a := ⟨w2.heap.size, 2, none⟩) Xp_3.out (by first | omega | (simp only [szA, szS, szD, World.heap_drewN] at * <;> omega)) (.int .i64 ar)))
        have Xres_4 := Lib.hid (below_at hb (set_off (a := ⟨w2.heap.size, 2, none⟩) Xres_3.out (by first | omega | (simp only [szA, szS, szD, World.heap_drewN] at * <;> omega)) (.int .i64 ar)))
        have Xo_4 := Lib.hid (below_at hb (set_at (a := ⟨w2.heap.size, 2, none⟩) Xo_3.out rfl rfl (.int .i64 ar)))
        clear hb
        obtain ⟨cp4_0, cp4_1, cp4_2, cp4_3, cp4_4, fp4_0, fp4_1, fp4_2, fp4_3, fp4_4⟩ := box5 Xp_4.out; have lp4 := heap_lt Xp_4.out
        obtain ⟨cres4_0, cres4_1, cres4_2, fres4_0, fres4_1, fres4_2⟩ := box3 Xres_4.out; have lres4 := heap_lt Xres_4.out
        obtain ⟨co4_0, co4_1, co4_2, fo4_0, fo4_1, fo4_2⟩ := box3 Xo_4.out; have lo4 := heap_lt Xo_4.out
        have S4 : w.heap.size ≤ w4.heap.size := (by omega)
        clear cp3_0 cp3_1 cp3_2 cp3_3 cp3_4 fp3_0 fp3_1 fp3_2 fp3_3 fp3_4 cres3_0 cres3_1 cres3_2 fres3_0 fres3_1 fres3_2 co3_0 co3_1 co3_2 fo3_0 fo3_1 fo3_2
        go_wp2_with (fail)
        refine (sOpValidO _ c (8, on, ar) _ ((OP_0.out.past A4.out.g hlo).row)).mono ?_
        rw [HV.out]
        rintro e w5 ⟨rfl, hb⟩
        have A5 := Lib.hid (Dr.below A4.out hb)
        have Z5 := hb.size
        have N5 : w4.heap.size ≤ w5.heap.size := (by first | with_reducible exact Z5 | (simp only [szA, szS, szD] at Z5; omega))
        clear Z5
        have Xp_5 := Lib.hid (below_at hb Xp_4.out)
        have Xres_5 := Lib.hid (below_at hb Xres_4.out)
        have Xo_5 := Lib.hid (below_at hb Xo_4.out)
        clear hb
        obtain ⟨cp5_0, cp5_1, cp5_2, cp5_3, cp5_4, fp5_0, fp5_1, fp5_2, fp5_3, fp5_4⟩ := box5 Xp_5.out; have lp5 := heap_lt Xp_5.out
        obtain ⟨cres5_0, cres5_1, cres5_2, fres5_0, fres5_1, fres5_2⟩ := box3 Xres_5.out; have lres5 := heap_lt Xres_5.out
        obtain ⟨co5_0, co5_1, co5_2, fo5_0, fo5_1, fo5_2⟩ := box3 Xo_5.out; have lo5 := heap_lt Xo_5.out
        have S5 : w.heap.size ≤ w5.heap.size := (by omega)
        clear cp4_0 cp4_1 cp4_2 cp4_3 cp4_4 fp4_0 fp4_1 fp4_2 fp4_3 fp4_4 cres4_0 cres4_1 cres4_2 fres4_0 fres4_1 fres4_2 co4_0 co4_1 co4_2 fo4_0 fo4_1 fo4_2
        have ne_p_res : w.heap.size ≠ w.heap.size + 1 := by omega
        have nf_p_res := ne_p_res.symm
        have ne_p_o : w.heap.size ≠ w2.heap.size := by omega
        have nf_p_o := ne_p_o.symm
        have ne_res_o : w.heap.size + 1 ≠ w2.heap.size := by omega
        have nf_res_o := ne_res_o.symm
        go_wp2_with (fail)
        refine bodyPost_ret (v := .agg #[.int .i64 8, .int .i64 on, .int .i64 ar]) (by simp [results, Tryd.results26, go_sem, cres5_0, cres5_1, cres5_2, lres5, co5_0, co5_1, co5_2, lo5, ne_p_res, nf_p_res, ne_p_o, nf_p_o, ne_res_o, nf_res_o]) rfl ⟨(8, on, ar), rfl, (by unfold opSmall Kd; dsimp only; omega), (((A5.out.set (a := ⟨w.heap.size + 1, 0, none⟩) (by first | omega | (simp only [szA, szS, szD, World.heap_drewN] at * <;> omega)) (.int .i64 8)).set (a := ⟨w.heap.size + 1, 1, none⟩) (by first | omega | (simp only [szA, szS, szD, World.heap_drewN] at * <;> omega)) (.int .i64 on)).set (a := ⟨w.heap.size + 1, 2, none⟩) (by first | omega | (simp only [szA, szS, szD, World.heap_drewN] at * <;> omega)) (.int .i64 ar)).mono (by omega)⟩
  · have dk1 : (k == 1) = false := beq_eq_false_iff_ne.2 (by omega)
    have dk2 : (k == 2) = false := beq_eq_false_iff_ne.2 (by omega)
    have dk3 : (k == 3) = false := beq_eq_false_iff_ne.2 (by omega)
    have dk4 : (k == 4) = false := beq_eq_false_iff_ne.2 (by omega)
    have dk5 : (k == 5) = false := beq_eq_false_iff_ne.2 (by omega)
    have dk8 : (k == 8) = false := beq_eq_false_iff_ne.2 (by omega)
    clear hk
    cases hv : opB c (k, on, 0)
    · have HV := Lib.hid hv; clear hv
      go_wp2_with (fail)
      refine (sOpValidO _ c (k, on, 0) _ ((OP_0.out.past (A2.out.alloc _).g hlo).row)).mono ?_
      rw [HV.out]
      rintro e w3 ⟨rfl, hb⟩
      have A3 := Lib.hid (Dr.below (A2.out.alloc _) hb)
      have Z3 := hb.size
      have N3 : w2.heap.size + 1 ≤ w3.heap.size := (by first | with_reducible exact Z3 | (simp only [szA, szS, szD] at Z3; omega))
      clear Z3
      have Xp_3 := Lib.hid (below_at hb (heap_up Xp_2.out))
      have Xres_3 := Lib.hid (below_at hb (heap_up Xres_2.out))
      have Xo_3 : Hid (w3.heap[w2.heap.size]? = some (.cells #[.int .i64 k, .int .i64 on, .int .i64 0] 23 (0, 0))) := below_at hb (heap_at' (n := w2.heap.size) (by first | omega | (simp only [szA, szS, szD, World.heap_drewN] at * <;> omega)))
      clear hb
      obtain ⟨cp3_0, cp3_1, cp3_2, cp3_3, cp3_4, fp3_0, fp3_1, fp3_2, fp3_3, fp3_4⟩ := box5 Xp_3.out; have lp3 := heap_lt Xp_3.out
      obtain ⟨cres3_0, cres3_1, cres3_2, fres3_0, fres3_1, fres3_2⟩ := box3 Xres_3.out; have lres3 := heap_lt Xres_3.out
      obtain ⟨co3_0, co3_1, co3_2, fo3_0, fo3_1, fo3_2⟩ := box3 Xo_3.out; have lo3 := heap_lt Xo_3.out
      have S3 : w.heap.size ≤ w3.heap.size := (by omega)
      clear cp2_0 cp2_1 cp2_2 cp2_3 cp2_4 fp2_0 fp2_1 fp2_2 fp2_3 fp2_4 cres2_0 cres2_1 cres2_2 fres2_0 fres2_1 fres2_2
      cases hv : opB c (k, 0, 0)
      · have HV := Lib.hid hv; clear hv
        go_wp2_with (fail)
        refine (sOpValidO _ c (k, 0, 0) _ ((OP_0.out.past (A3.out.set (a := ⟨w2.heap.size, 1, none⟩) (by first | omega | (simp only [szA, szS, szD, World.heap_drewN] at * <;> omega)) (.int .i64 0)).g hlo).row)).mono ?_
        rw [HV.out]
        rintro e w4 ⟨rfl, hb⟩
        have A4 := Lib.hid (Dr.below (A3.out.set (a := ⟨w2.heap.size, 1, none⟩) (by first | omega | (simp only [szA, szS, szD, World.heap_drewN] at * <;> omega)) (.int .i64 0)) hb)
        have Z4 := hb.size
        have N4 : w3.heap.size ≤ w4.heap.size := (by first | with_reducible exact Z4 | (simp only [szA, szS, szD] at Z4; omega))
        clear Z4
        have Xp_4 := Lib.hid (below_at hb (set_off (a := ⟨w2.heap.size, 1, none⟩) Xp_3.out (by first | omega | (simp only [szA, szS, szD, World.heap_drewN] at * <;> omega)) (.int .i64 0)))
        have Xres_4 := Lib.hid (below_at hb (set_off (a := ⟨w2.heap.size, 1, none⟩) Xres_3.out (by first | omega | (simp only [szA, szS, szD, World.heap_drewN] at * <;> omega)) (.int .i64 0)))
        have Xo_4 := Lib.hid (below_at hb (set_at (a := ⟨w2.heap.size, 1, none⟩) Xo_3.out rfl rfl (.int .i64 0)))
        clear hb
        obtain ⟨cp4_0, cp4_1, cp4_2, cp4_3, cp4_4, fp4_0, fp4_1, fp4_2, fp4_3, fp4_4⟩ := box5 Xp_4.out; have lp4 := heap_lt Xp_4.out
        obtain ⟨cres4_0, cres4_1, cres4_2, fres4_0, fres4_1, fres4_2⟩ := box3 Xres_4.out; have lres4 := heap_lt Xres_4.out
        obtain ⟨co4_0, co4_1, co4_2, fo4_0, fo4_1, fo4_2⟩ := box3 Xo_4.out; have lo4 := heap_lt Xo_4.out
        have S4 : w.heap.size ≤ w4.heap.size := (by omega)
        clear cp3_0 cp3_1 cp3_2 cp3_3 cp3_4 fp3_0 fp3_1 fp3_2 fp3_3 fp3_4 cres3_0 cres3_1 cres3_2 fres3_0 fres3_1 fres3_2 co3_0 co3_1 co3_2 fo3_0 fo3_1 fo3_2
        go_wp2_with (fail)
        refine (pickD b (N + 2) 9 w _ A4.out (by omega) (by decide)).mono ?_
        rintro e w5 ⟨ag, rfl, hag0, hag1, hd⟩
        have A5 := Lib.hid (Dr.then A4.out hd)
        have Z5 := hd.size
        have N5 : w4.heap.size ≤ w5.heap.size := (by first | with_reducible exact Z5 | (simp only [szA, szS, szD] at Z5; omega))
        clear Z5
        have Xp_5 := Lib.hid (hd.at_ Xp_4.out (by first | omega | (simp only [szA, szS, szD, World.heap_drewN] at * <;> omega)))
        have Xres_5 := Lib.hid (hd.at_ Xres_4.out (by first | omega | (simp only [szA, szS, szD, World.heap_drewN] at * <;> omega)))
        have Xo_5 := Lib.hid (hd.at_ Xo_4.out (by first | omega | (simp only [szA, szS, szD, World.heap_drewN] at * <;> omega)))
        clear hd
        obtain ⟨cp5_0, cp5_1, cp5_2, cp5_3, cp5_4, fp5_0, fp5_1, fp5_2, fp5_3, fp5_4⟩ := box5 Xp_5.out; have lp5 := heap_lt Xp_5.out
        obtain ⟨cres5_0, cres5_1, cres5_2, fres5_0, fres5_1, fres5_2⟩ := box3 Xres_5.out; have lres5 := heap_lt Xres_5.out
        obtain ⟨co5_0, co5_1, co5_2, fo5_0, fo5_1, fo5_2⟩ := box3 Xo_5.out; have lo5 := heap_lt Xo_5.out
        have S5 : w.heap.size ≤ w5.heap.size := (by omega)
        clear cp4_0 cp4_1 cp4_2 cp4_3 cp4_4 fp4_0 fp4_1 fp4_2 fp4_3 fp4_4 cres4_0 cres4_1 cres4_2 fres4_0 fres4_1 fres4_2 co4_0 co4_1 co4_2 fo4_0 fo4_1 fo4_2
        have hag : 0 ≤ ag ∧ ag ≤ 8 := by omega
        obtain ⟨hag0, hag2⟩ := hag; clear hag1
        have ne_p_res : w.heap.size ≠ w.heap.size + 1 := by omega
        have nf_p_res := ne_p_res.symm
        have ne_p_o : w.heap.size ≠ w2.heap.size := by omega
        have nf_p_o := ne_p_o.symm
        have ne_res_o : w.heap.size + 1 ≠ w2.heap.size := by omega
        have nf_res_o := ne_res_o.symm
        go_wp2_with (fail)
        refine bodyPost_ret (v := .agg #[.int .i64 1, .int .i64 0, .int .i64 ag]) (by simp [results, Tryd.results26, go_sem, cres5_0, cres5_1, cres5_2, lres5, co5_0, co5_1, co5_2, lo5, ne_p_res, nf_p_res, ne_p_o, nf_p_o, ne_res_o, nf_res_o]) rfl ⟨(1, 0, ag), rfl, (by unfold opSmall Kd; dsimp only; omega), (((A5.out.set (a := ⟨w.heap.size + 1, 0, none⟩) (by first | omega | (simp only [szA, szS, szD, World.heap_drewN] at * <;> omega)) (.int .i64 1)).set (a := ⟨w.heap.size + 1, 1, none⟩) (by first | omega | (simp only [szA, szS, szD, World.heap_drewN] at * <;> omega)) (.int .i64 0)).set (a := ⟨w.heap.size + 1, 2, none⟩) (by first | omega | (simp only [szA, szS, szD, World.heap_drewN] at * <;> omega)) (.int .i64 ag)).mono (by omega)⟩
      · have HV := Lib.hid hv; clear hv
        go_wp2_with (fail)
        refine (sOpValidO _ c (k, 0, 0) _ ((OP_0.out.past (A3.out.set (a := ⟨w2.heap.size, 1, none⟩) (by first | omega | (simp only [szA, szS, szD, World.heap_drewN] at * <;> omega)) (.int .i64 0)).g hlo).row)).mono ?_
        rw [HV.out]
        rintro e w4 ⟨rfl, hb⟩
        have A4 := Lib.hid (Dr.below (A3.out.set (a := ⟨w2.heap.size, 1, none⟩) (by first | omega | (simp only [szA, szS, szD, World.heap_drewN] at * <;> omega)) (.int .i64 0)) hb)
        have Z4 := hb.size
        have N4 : w3.heap.size ≤ w4.heap.size := (by first | with_reducible exact Z4 | (simp only [szA, szS, szD] at Z4; omega))
        clear Z4
        have Xp_4 := Lib.hid (below_at hb (set_off (a := ⟨w2.heap.size, 1, none⟩) Xp_3.out (by first | omega | (simp only [szA, szS, szD, World.heap_drewN] at * <;> omega)) (.int .i64 0)))
        have Xres_4 := Lib.hid (below_at hb (set_off (a := ⟨w2.heap.size, 1, none⟩) Xres_3.out (by first | omega | (simp only [szA, szS, szD, World.heap_drewN] at * <;> omega)) (.int .i64 0)))
        have Xo_4 := Lib.hid (below_at hb (set_at (a := ⟨w2.heap.size, 1, none⟩) Xo_3.out rfl rfl (.int .i64 0)))
        clear hb
        obtain ⟨cp4_0, cp4_1, cp4_2, cp4_3, cp4_4, fp4_0, fp4_1, fp4_2, fp4_3, fp4_4⟩ := box5 Xp_4.out; have lp4 := heap_lt Xp_4.out
        obtain ⟨cres4_0, cres4_1, cres4_2, fres4_0, fres4_1, fres4_2⟩ := box3 Xres_4.out; have lres4 := heap_lt Xres_4.out
        obtain ⟨co4_0, co4_1, co4_2, fo4_0, fo4_1, fo4_2⟩ := box3 Xo_4.out; have lo4 := heap_lt Xo_4.out
        have S4 : w.heap.size ≤ w4.heap.size := (by omega)
        clear cp3_0 cp3_1 cp3_2 cp3_3 cp3_4 fp3_0 fp3_1 fp3_2 fp3_3 fp3_4 cres3_0 cres3_1 cres3_2 fres3_0 fres3_1 fres3_2 co3_0 co3_1 co3_2 fo3_0 fo3_1 fo3_2
        have ne_p_res : w.heap.size ≠ w.heap.size + 1 := by omega
        have nf_p_res := ne_p_res.symm
        have ne_p_o : w.heap.size ≠ w2.heap.size := by omega
        have nf_p_o := ne_p_o.symm
        have ne_res_o : w.heap.size + 1 ≠ w2.heap.size := by omega
        have nf_res_o := ne_res_o.symm
        go_wp2_with (fail)
        refine bodyPost_ret (v := .agg #[.int .i64 k, .int .i64 0, .int .i64 0]) (by simp [results, Tryd.results26, go_sem, cres4_0, cres4_1, cres4_2, lres4, co4_0, co4_1, co4_2, lo4, ne_p_res, nf_p_res, ne_p_o, nf_p_o, ne_res_o, nf_res_o]) rfl ⟨(k, 0, 0), rfl, (by unfold opSmall Kd; dsimp only; omega), (((A4.out.set (a := ⟨w.heap.size + 1, 0, none⟩) (by first | omega | (simp only [szA, szS, szD, World.heap_drewN] at * <;> omega)) (.int .i64 k)).set (a := ⟨w.heap.size + 1, 1, none⟩) (by first | omega | (simp only [szA, szS, szD, World.heap_drewN] at * <;> omega)) (.int .i64 0)).set (a := ⟨w.heap.size + 1, 2, none⟩) (by first | omega | (simp only [szA, szS, szD, World.heap_drewN] at * <;> omega)) (.int .i64 0)).mono (by omega)⟩
    · have HV := Lib.hid hv; clear hv
      go_wp2_with (fail)
      refine (sOpValidO _ c (k, on, 0) _ ((OP_0.out.past (A2.out.alloc _).g hlo).row)).mono ?_
      rw [HV.out]
      rintro e w3 ⟨rfl, hb⟩
      have A3 := Lib.hid (Dr.below (A2.out.alloc _) hb)
      have Z3 := hb.size
      have N3 : w2.heap.size + 1 ≤ w3.heap.size := (by first | with_reducible exact Z3 | (simp only [szA, szS, szD] at Z3; omega))
      clear Z3
      have Xp_3 := Lib.hid (below_at hb (heap_up Xp_2.out))
      have Xres_3 := Lib.hid (below_at hb (heap_up Xres_2.out))
      have Xo_3 : Hid (w3.heap[w2.heap.size]? = some (.cells #[.int .i64 k, .int .i64 on, .int .i64 0] 23 (0, 0))) := below_at hb (heap_at' (n := w2.heap.size) (by first | omega | (simp only [szA, szS, szD, World.heap_drewN] at * <;> omega)))
      clear hb
      obtain ⟨cp3_0, cp3_1, cp3_2, cp3_3, cp3_4, fp3_0, fp3_1, fp3_2, fp3_3, fp3_4⟩ := box5 Xp_3.out; have lp3 := heap_lt Xp_3.out
      obtain ⟨cres3_0, cres3_1, cres3_2, fres3_0, fres3_1, fres3_2⟩ := box3 Xres_3.out; have lres3 := heap_lt Xres_3.out
      obtain ⟨co3_0, co3_1, co3_2, fo3_0, fo3_1, fo3_2⟩ := box3 Xo_3.out; have lo3 := heap_lt Xo_3.out
      have S3 : w.heap.size ≤ w3.heap.size := (by omega)
      clear cp2_0 cp2_1 cp2_2 cp2_3 cp2_4 fp2_0 fp2_1 fp2_2 fp2_3 fp2_4 cres2_0 cres2_1 cres2_2 fres2_0 fres2_1 fres2_2
      go_wp2_with (fail)
      refine (sOpValidO _ c (k, on, 0) _ ((OP_0.out.past A3.out.g hlo).row)).mono ?_
      rw [HV.out]
      rintro e w4 ⟨rfl, hb⟩
      have A4 := Lib.hid (Dr.below A3.out hb)
      have Z4 := hb.size
      have N4 : w3.heap.size ≤ w4.heap.size := (by first | with_reducible exact Z4 | (simp only [szA, szS, szD] at Z4; omega))
      clear Z4
      have Xp_4 := Lib.hid (below_at hb Xp_3.out)
      have Xres_4 := Lib.hid (below_at hb Xres_3.out)
      have Xo_4 := Lib.hid (below_at hb Xo_3.out)
      clear hb
      obtain ⟨cp4_0, cp4_1, cp4_2, cp4_3, cp4_4, fp4_0, fp4_1, fp4_2, fp4_3, fp4_4⟩ := box5 Xp_4.out; have lp4 := heap_lt Xp_4.out
      obtain ⟨cres4_0, cres4_1, cres4_2, fres4_0, fres4_1, fres4_2⟩ := box3 Xres_4.out; have lres4 := heap_lt Xres_4.out
      obtain ⟨co4_0, co4_1, co4_2, fo4_0, fo4_1, fo4_2⟩ := box3 Xo_4.out; have lo4 := heap_lt Xo_4.out
      have S4 : w.heap.size ≤ w4.heap.size := (by omega)
      clear cp3_0 cp3_1 cp3_2 cp3_3 cp3_4 fp3_0 fp3_1 fp3_2 fp3_3 fp3_4 cres3_0 cres3_1 cres3_2 fres3_0 fres3_1 fres3_2 co3_0 co3_1 co3_2 fo3_0 fo3_1 fo3_2
      have ne_p_res : w.heap.size ≠ w.heap.size + 1 := by omega
      have nf_p_res := ne_p_res.symm
      have ne_p_o : w.heap.size ≠ w2.heap.size := by omega
      have nf_p_o := ne_p_o.symm
      have ne_res_o : w.heap.size + 1 ≠ w2.heap.size := by omega
      have nf_res_o := ne_res_o.symm
      go_wp2_with (fail)
      refine bodyPost_ret (v := .agg #[.int .i64 k, .int .i64 on, .int .i64 0]) (by simp [results, Tryd.results26, go_sem, cres4_0, cres4_1, cres4_2, lres4, co4_0, co4_1, co4_2, lo4, ne_p_res, nf_p_res, ne_p_o, nf_p_o, ne_res_o, nf_res_o]) rfl ⟨(k, on, 0), rfl, (by unfold opSmall Kd; dsimp only; omega), (((A4.out.set (a := ⟨w.heap.size + 1, 0, none⟩) (by first | omega | (simp only [szA, szS, szD, World.heap_drewN] at * <;> omega)) (.int .i64 k)).set (a := ⟨w.heap.size + 1, 1, none⟩) (by first | omega | (simp only [szA, szS, szD, World.heap_drewN] at * <;> omega)) (.int .i64 on)).set (a := ⟨w.heap.size + 1, 2, none⟩) (by first | omega | (simp only [szA, szS, szD, World.heap_drewN] at * <;> omega)) (.int .i64 0)).mono (by omega)⟩
end Go.Proofs.YthbnbofoefdneaaDoor
