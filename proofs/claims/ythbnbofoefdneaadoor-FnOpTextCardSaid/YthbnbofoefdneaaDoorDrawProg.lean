/- A program that is drawn (made by gen_progdraw.py). -/
import Derived.Test.YthbnbofoefdneaaDoorDrawOp
namespace Go.Proofs.YthbnbofoefdneaaDoor
open Go.RowKit
set_option linter.unusedSimpArgs false
set_option linter.unusedVariables false
theorem few_of {c : ProgD} (h : c = ProgD.zero ∨ ProgOk c) : ProgFew 8 c := by
  rcases h with rfl | h
  · exact ProgFew.zero
  · exact h.few
theorem low_of {c : ProgD} (h : c = ProgD.zero ∨ ProgOk c) : ProgLow c := by
  rcases h with rfl | h
  · exact ProgLow.zero
  · exact h.low
set_option maxRecDepth 100000 in
set_option maxHeartbeats 16000000 in
theorem l6Draw_calls (b N : Nat) (w0 w : World) (h : Dr w0 b N w) (hN : N ≤ 900000) :
    Calls Tryd.prog 25 #[.pointer (some ⟨b, 0, none⟩)] w fun e w' => ∃ v c, e = .returned v ∧ ProgOwn w.heap.size w'.heap.size w' v c ∧ ProgFew 8 c ∧ ProgLow c ∧ Dr w b (N + 100) w' := by
  have A0 := Lib.hid (Dr.start h.r); have hlt := h.r.lt; clear h
  go_enter Tryd.func25, Tryd.ntmps25
  go_wp2_with (fail)
  refine (pickD b N 2 w _ (A0.out.alloc _) (by omega) (by decide)).mono ?_
  rintro e w1 ⟨x, rfl, hx0, hx1, hd⟩
  have A1 := Lib.hid (Dr.then (A0.out.alloc _) hd)
  have Z1 := hd.size
  have N1 : w.heap.size + 1 ≤ w1.heap.size := (by first | with_reducible exact Z1 | (simp only [szA, szS, szD] at Z1; omega))
  clear Z1
  have Xres_1 : Hid (w1.heap[w.heap.size]? = some (.cells #[.slice none 0 0, .slice none 0 0, .slice none 0 0, .slice none 0 0, .slice none 0 0] 34 (0, 0))) := hd.at_ (heap_at' (n := w.heap.size) (by first | omega | (simp only [szA, szS, szD, World.heap_drewN] at * <;> omega))) (by first | omega | (simp only [szA, szS, szD, World.heap_drewN] at * <;> omega))
  clear hd
  obtain ⟨cres1_0, cres1_1, cres1_2, cres1_3, cres1_4, fres1_0, fres1_1, fres1_2, fres1_3, fres1_4⟩ := box5 Xres_1.out; have lres1 := heap_lt Xres_1.out
  have S1 : w.heap.size ≤ w1.heap.size := (by omega)
  by_cases h0 : x = 0
  · subst h0
    go_wp2_with (fail)
    refine (l6Samples_calls _).mono ?_
    rintro e w2 ⟨v, rfl, ho_m, hb⟩
    have A2 := Lib.hid (Dr.below A1.out hb)
    have Z2 := hb.size
    have N2 : w1.heap.size ≤ w2.heap.size := (by first | with_reducible exact Z2 | (simp only [szA, szS, szD] at Z2; omega))
    clear Z2
    have Xres_2 := Lib.hid (below_at hb Xres_1.out)
    have Om_2 := Lib.hid (Own.mono (base' := w.heap.size) ho_m (by first | omega | (simp only [szA, szS, szD, World.heap_drewN] at * <;> omega))); obtain ⟨am, pm, rfl⟩ := ho_m.form; clear ho_m
    clear hb
    obtain ⟨cres2_0, cres2_1, cres2_2, cres2_3, cres2_4, fres2_0, fres2_1, fres2_2, fres2_3, fres2_4⟩ := box5 Xres_2.out; have lres2 := heap_lt Xres_2.out
    have S2 : w.heap.size ≤ w2.heap.size := (by omega)
    clear cres1_0 cres1_1 cres1_2 cres1_3 cres1_4 fres1_0 fres1_1 fres1_2 fres1_3 fres1_4
    go_wp2_with (fail)
    refine (of_calls b (N + 1) _ samplesB w _ A2.out (by omega) (Om_2.out.row encZ_len) (by decide) (fun e => by have := Om_2.out.blk b e; omega)).mono ?_
    rintro e w3 ⟨y, rfl, hy, hd⟩
    have A3 := Lib.hid (Dr.then A2.out hd)
    have Z3 := hd.size
    have N3 : w2.heap.size ≤ w3.heap.size := (by first | with_reducible exact Z3 | (simp only [szA, szS, szD] at Z3; omega))
    clear Z3
    have Xres_3 := Lib.hid (hd.at_ Xres_2.out (by first | omega | (simp only [szA, szS, szD, World.heap_drewN] at * <;> omega)))
    have Om_3 := Lib.hid (Om_2.out.past hd.g hlt)
    clear hd
    obtain ⟨cres3_0, cres3_1, cres3_2, cres3_3, cres3_4, fres3_0, fres3_1, fres3_2, fres3_3, fres3_4⟩ := box5 Xres_3.out; have lres3 := heap_lt Xres_3.out
    have S3 : w.heap.size ≤ w3.heap.size := (by omega)
    clear cres2_0 cres2_1 cres2_2 cres2_3 cres2_4 fres2_0 fres2_1 fres2_2 fres2_3 fres2_4
    have hyz : y.size ≤ 2000000 := Nat.le_trans (samplesB_size y hy) (by decide)
    clear hy
    go_wp2_with (fail)
    refine (sParseProg_calls y _ hyz).mono ?_
    rintro e w4 ⟨v, c, ok, rfl, ho_d, hc, hb⟩
    have A4 := Lib.hid (Dr.below A3.out hb)
    have Z4 := hb.size
    have N4 : w3.heap.size ≤ w4.heap.size := (by first | with_reducible exact Z4 | (simp only [szA, szS, szD] at Z4; omega))
    clear Z4
    have Xres_4 := Lib.hid (below_at hb Xres_3.out)
    have Om_4 := Lib.hid (Om_3.out.kept hb)
    have Od_4 := Lib.hid (ho_d.mono (lo' := w.heap.size) (by first | omega | (simp only [szA, szS, szD, World.heap_drewN] at * <;> omega)) (Nat.le_refl _)); obtain ⟨ad0, pd0, ad1, pd1, ad2, pd2, ad3, pd3, ad4, pd4, rfl, hx_d⟩ := ho_d; clear hx_d
    clear hb
    obtain ⟨cres4_0, cres4_1, cres4_2, cres4_3, cres4_4, fres4_0, fres4_1, fres4_2, fres4_3, fres4_4⟩ := box5 Xres_4.out; have lres4 := heap_lt Xres_4.out
    have S4 : w.heap.size ≤ w4.heap.size := (by omega)
    clear cres3_0 cres3_1 cres3_2 cres3_3 cres3_4 fres3_0 fres3_1 fres3_2 fres3_3 fres3_4
    have HC := Lib.hid hc; clear hc
    have ne_p3_res : w4.heap.size ≠ w.heap.size := by omega
    have nf_p3_res := ne_p3_res.symm
    go_wp2_with (fail)
    refine bodyPost_ret (v := .agg #[.slice ad0 c.sems.length pd0, .slice ad1 c.groups.length pd1, .slice ad2 c.barriers.length pd2, .slice ad3 c.rooms.length pd3, .slice ad4 c.threads.length pd4]) (by simp [results, Tryd.results25, go_sem, cres4_0, cres4_1, cres4_2, cres4_3, cres4_4, lres4, ne_p3_res, nf_p3_res]) rfl ⟨_, c, rfl, ((((((Od_4.out.setB (w.heap.size) 0 Xres_4.out (by decide) (.slice ad0 c.sems.length pd0)).setB (w.heap.size) 1 (set_at (a := ⟨w.heap.size, 0, none⟩) Xres_4.out rfl rfl (.slice ad0 c.sems.length pd0)) (by decide) (.slice ad1 c.groups.length pd1)).setB (w.heap.size) 2 (set_at (a := ⟨w.heap.size, 1, none⟩) (set_at (a := ⟨w.heap.size, 0, none⟩) Xres_4.out rfl rfl (.slice ad0 c.sems.length pd0)) rfl rfl (.slice ad1 c.groups.length pd1)) (by decide) (.slice ad2 c.barriers.length pd2)).setB (w.heap.size) 3 (set_at (a := ⟨w.heap.size, 2, none⟩) (set_at (a := ⟨w.heap.size, 1, none⟩) (set_at (a := ⟨w.heap.size, 0, none⟩) Xres_4.out rfl rfl (.slice ad0 c.sems.length pd0)) rfl rfl (.slice ad1 c.groups.length pd1)) rfl rfl (.slice ad2 c.barriers.length pd2)) (by decide) (.slice ad3 c.rooms.length pd3)).setB (w.heap.size) 4 (set_at (a := ⟨w.heap.size, 3, none⟩) (set_at (a := ⟨w.heap.size, 2, none⟩) (set_at (a := ⟨w.heap.size, 1, none⟩) (set_at (a := ⟨w.heap.size, 0, none⟩) Xres_4.out rfl rfl (.slice ad0 c.sems.length pd0)) rfl rfl (.slice ad1 c.groups.length pd1)) rfl rfl (.slice ad2 c.barriers.length pd2)) rfl rfl (.slice ad3 c.rooms.length pd3)) (by decide) (.slice ad4 c.threads.length pd4)).alloc _), few_of HC.out, low_of HC.out, ((((((A4.out.set (a := ⟨w.heap.size, 0, none⟩) (by first | omega | (simp only [szA, szS, szD, World.heap_drewN] at * <;> omega)) (.slice ad0 c.sems.length pd0)).set (a := ⟨w.heap.size, 1, none⟩) (by first | omega | (simp only [szA, szS, szD, World.heap_drewN] at * <;> omega)) (.slice ad1 c.groups.length pd1)).set (a := ⟨w.heap.size, 2, none⟩) (by first | omega | (simp only [szA, szS, szD, World.heap_drewN] at * <;> omega)) (.slice ad2 c.barriers.length pd2)).set (a := ⟨w.heap.size, 3, none⟩) (by first | omega | (simp only [szA, szS, szD, World.heap_drewN] at * <;> omega)) (.slice ad3 c.rooms.length pd3)).set (a := ⟨w.heap.size, 4, none⟩) (by first | omega | (simp only [szA, szS, szD, World.heap_drewN] at * <;> omega)) (.slice ad4 c.threads.length pd4)).alloc _).mono (by omega)⟩
  · have e0 : (x == 0) = false := beq_false_of_ne h0
    clear h0
    go_wp2_with (fail)
    refine (numD b (N + 1) _ [1, 2, 3] w _ (A1.out.alloc _) (by omega) (lit_row _ (by decide) rfl rfl (by first | omega | (simp only [szA, szS, szD, World.heap_drewN] at * <;> omega))) (by decide) (by simp [Value.ownBlock]; omega)).mono ?_
    rintro e w2 ⟨ya, rfl, hya, hd⟩
    have A2 := Lib.hid (Dr.then (A1.out.alloc _) hd)
    have Z2 := hd.size
    have N2 : w1.heap.size + 1 ≤ w2.heap.size := (by first | with_reducible exact Z2 | (simp only [szA, szS, szD] at Z2; omega))
    clear Z2
    have Xres_2 := Lib.hid (hd.at_ (heap_up Xres_1.out) (by first | omega | (simp only [szA, szS, szD, World.heap_drewN] at * <;> omega)))
    clear hd
    obtain ⟨cres2_0, cres2_1, cres2_2, cres2_3, cres2_4, fres2_0, fres2_1, fres2_2, fres2_3, fres2_4⟩ := box5 Xres_2.out; have lres2 := heap_lt Xres_2.out
    have S2 : w.heap.size ≤ w2.heap.size := (by omega)
    clear cres1_0 cres1_1 cres1_2 cres1_3 cres1_4 fres1_0 fres1_1 fres1_2 fres1_3 fres1_4
    have hyab : 1 ≤ ya ∧ ya ≤ 3 := by simp at hya; omega
    obtain ⟨hya0, hya1⟩ := hyab; clear hya
    go_wp2_with (fail)
    refine (numD b (N + 2) _ [1, 2, 0] w _ ((A2.out.alloc _).alloc _) (by omega) (lit_row _ (by decide) rfl rfl (by first | omega | (simp only [szA, szS, szD, World.heap_drewN] at * <;> omega))) (by decide) (by simp [Value.ownBlock]; omega)).mono ?_
    rintro e w3 ⟨yb, rfl, hyb, hd⟩
    have A3 := Lib.hid (Dr.then ((A2.out.alloc _).alloc _) hd)
    have Z3 := hd.size
    have N3 : w2.heap.size + 2 ≤ w3.heap.size := (by first | with_reducible exact Z3 | (simp only [szA, szS, szD] at Z3; omega))
    clear Z3
    have Xres_3 := Lib.hid (hd.at_ (heap_up (heap_up Xres_2.out)) (by first | omega | (simp only [szA, szS, szD, World.heap_drewN] at * <;> omega)))
    have Xs0_3 : Hid (w3.heap[w2.heap.size]? = some (.cells #[.int .i64 ya, .int .i64 1] 3 (0, 0))) := hd.at_ (heap_up (heap_at' (n := w2.heap.size) (by first | omega | (simp only [szA, szS, szD, World.heap_drewN] at * <;> omega)))) (by first | omega | (simp only [szA, szS, szD, World.heap_drewN] at * <;> omega))
    clear hd
    obtain ⟨cres3_0, cres3_1, cres3_2, cres3_3, cres3_4, fres3_0, fres3_1, fres3_2, fres3_3, fres3_4⟩ := box5 Xres_3.out; have lres3 := heap_lt Xres_3.out
    have ls03 := heap_lt Xs0_3.out
    have S3 : w.heap.size ≤ w3.heap.size := (by omega)
    clear cres2_0 cres2_1 cres2_2 cres2_3 cres2_4 fres2_0 fres2_1 fres2_2 fres2_3 fres2_4
    have hybb : 0 ≤ yb ∧ yb ≤ 2 := by simp at hyb; omega
    obtain ⟨hyb0, hyb1⟩ := hybb; clear hyb
    go_wp2_with (fail)
    refine (numD b (N + 3) _ [1, 0, 2] w _ (((A3.out.alloc _).alloc _).alloc _) (by omega) (lit_row _ (by decide) rfl rfl (by first | omega | (simp only [szA, szS, szD, World.heap_drewN] at * <;> omega))) (by decide) (by simp [Value.ownBlock]; omega)).mono ?_
    rintro e w4 ⟨yc, rfl, hyc, hd⟩
    have A4 := Lib.hid (Dr.then (((A3.out.alloc _).alloc _).alloc _) hd)
    have Z4 := hd.size
    have N4 : w3.heap.size + 3 ≤ w4.heap.size := (by first | with_reducible exact Z4 | (simp only [szA, szS, szD] at Z4; omega))
    clear Z4
    have Xres_4 := Lib.hid (hd.at_ (heap_up (heap_up (heap_up Xres_3.out))) (by first | omega | (simp only [szA, szS, szD, World.heap_drewN] at * <;> omega)))
    have Xs0_4 := Lib.hid (hd.at_ (heap_up (heap_up (heap_up Xs0_3.out))) (by first | omega | (simp only [szA, szS, szD, World.heap_drewN] at * <;> omega)))
    have Xg0_4 : Hid (w4.heap[w3.heap.size]? = some (.cells #[.int .i64 yb] 3 (0, 0))) := hd.at_ (heap_up (heap_up (heap_at' (n := w3.heap.size) (by first | omega | (simp only [szA, szS, szD, World.heap_drewN] at * <;> omega))))) (by first | omega | (simp only [szA, szS, szD, World.heap_drewN] at * <;> omega))
    have Xb0_4 : Hid (w4.heap[w3.heap.size + 1]? = some (.cells #[.int .i64 2] 3 (0, 0))) := hd.at_ (heap_up (heap_at' (n := w3.heap.size + 1) (by first | omega | (simp only [szA, szS, szD, World.heap_drewN] at * <;> omega)))) (by first | omega | (simp only [szA, szS, szD, World.heap_drewN] at * <;> omega))
    clear hd
    obtain ⟨cres4_0, cres4_1, cres4_2, cres4_3, cres4_4, fres4_0, fres4_1, fres4_2, fres4_3, fres4_4⟩ := box5 Xres_4.out; have lres4 := heap_lt Xres_4.out
    have ls04 := heap_lt Xs0_4.out
    have lg04 := heap_lt Xg0_4.out
    have lb04 := heap_lt Xb0_4.out
    have S4 : w.heap.size ≤ w4.heap.size := (by omega)
    clear cres3_0 cres3_1 cres3_2 cres3_3 cres3_4 fres3_0 fres3_1 fres3_2 fres3_3 fres3_4
    have hycb : 0 ≤ yc ∧ yc ≤ 2 := by simp at hyc; omega
    obtain ⟨hyc0, hyc1⟩ := hycb; clear hyc
    go_wp2_with (fail)
    refine (pickD b (N + 4) 2 w _ ((A4.out.alloc _).alloc _) (by omega) (by decide)).mono ?_
    rintro e w5 ⟨y, rfl, hy0, hy1, hd⟩
    have A5 := Lib.hid (Dr.then ((A4.out.alloc _).alloc _) hd)
    have Z5 := hd.size
    have N5 : w4.heap.size + 2 ≤ w5.heap.size := (by first | with_reducible exact Z5 | (simp only [szA, szS, szD] at Z5; omega))
    clear Z5
    have Xres_5 := Lib.hid (hd.at_ (heap_up (heap_up Xres_4.out)) (by first | omega | (simp only [szA, szS, szD, World.heap_drewN] at * <;> omega)))
    have Xs0_5 := Lib.hid (hd.at_ (heap_up (heap_up Xs0_4.out)) (by first | omega | (simp only [szA, szS, szD, World.heap_drewN] at * <;> omega)))
    have Xg0_5 := Lib.hid (hd.at_ (heap_up (heap_up Xg0_4.out)) (by first | omega | (simp only [szA, szS, szD, World.heap_drewN] at * <;> omega)))
    have Xb0_5 := Lib.hid (hd.at_ (heap_up (heap_up Xb0_4.out)) (by first | omega | (simp only [szA, szS, szD, World.heap_drewN] at * <;> omega)))
    have Xr0_5 : Hid (w5.heap[w4.heap.size]? = some (.cells #[.int .i64 yc] 3 (0, 0))) := hd.at_ (heap_up (heap_at' (n := w4.heap.size) (by first | omega | (simp only [szA, szS, szD, World.heap_drewN] at * <;> omega)))) (by first | omega | (simp only [szA, szS, szD, World.heap_drewN] at * <;> omega))
    have Xp_5 : Hid (w5.heap[w4.heap.size + 1]? = some (.cells #[.slice (some ⟨w2.heap.size, 0, none⟩) 2 2, .slice (some ⟨w3.heap.size, 0, none⟩) 1 1, .slice (some ⟨w3.heap.size + 1, 0, none⟩) 1 1, .slice (some ⟨w4.heap.size, 0, none⟩) 1 1, .slice none 0 0] 34 (0, 0))) := hd.at_ (heap_at' (n := w4.heap.size + 1) (by first | omega | (simp only [szA, szS, szD, World.heap_drewN] at * <;> omega))) (by first | omega | (simp only [szA, szS, szD, World.heap_drewN] at * <;> omega))
    clear hd
    obtain ⟨cres5_0, cres5_1, cres5_2, cres5_3, cres5_4, fres5_0, fres5_1, fres5_2, fres5_3, fres5_4⟩ := box5 Xres_5.out; have lres5 := heap_lt Xres_5.out
    have ls05 := heap_lt Xs0_5.out
    have lg05 := heap_lt Xg0_5.out
    have lb05 := heap_lt Xb0_5.out
    have lr05 := heap_lt Xr0_5.out
    obtain ⟨cp5_0, cp5_1, cp5_2, cp5_3, cp5_4, fp5_0, fp5_1, fp5_2, fp5_3, fp5_4⟩ := box5 Xp_5.out; have lp5 := heap_lt Xp_5.out
    have S5 : w.heap.size ≤ w5.heap.size := (by omega)
    clear cres4_0 cres4_1 cres4_2 cres4_3 cres4_4 fres4_0 fres4_1 fres4_2 fres4_3 fres4_4
    have Oq0_5 := Lib.hid (Own.lit2 (base := w.heap.size) Xs0_5.out (by omega))
    have Oq1_5 := Lib.hid (Own.lit1 (base := w.heap.size) Xg0_5.out (by omega))
    have Oq2_5 := Lib.hid (Own.lit1 (base := w.heap.size) Xb0_5.out (by omega))
    have Oq3_5 := Lib.hid (Own.lit1 (base := w.heap.size) Xr0_5.out (by omega))
    obtain ⟨y, rfl⟩ := Int.eq_ofNat_of_zero_le hy0
    have hyn : y ≤ 1 := by omega
    clear hy0 hy1
    go_wp2_with (fail)
    go_loopw [6] (fun iv wr => ∃ (k : Nat) (ts : List (List OpT)) (aq4 : Option Addr) (pq4 : Nat), iv = .int .i64 k ∧ k ≤ 3 ∧ ts.length + k ≤ 3 ∧ (∀ t ∈ ts, t.length ≤ 4) ∧ wr.heap[w.heap.size]? = some (.cells #[.slice none 0 0, .slice none 0 0, .slice none 0 0, .slice none 0 0, .slice none 0 0] 34 (0, 0)) ∧ wr.heap[w4.heap.size + 1]? = some (.cells #[.slice (some ⟨w2.heap.size, 0, none⟩) 2 2, .slice (some ⟨w3.heap.size, 0, none⟩) 1 1, .slice (some ⟨w3.heap.size + 1, 0, none⟩) 1 1, .slice (some ⟨w4.heap.size, 0, none⟩) 1 1, .slice aq4 ts.length pq4] 34 (0, 0)) ∧ Own w.heap.size 3 1 encI wr (.slice (some ⟨w2.heap.size, 0, none⟩) 2 2) [ya, 1] ∧ Own w.heap.size 3 1 encI wr (.slice (some ⟨w3.heap.size, 0, none⟩) 1 1) [yb] ∧ Own w.heap.size 3 1 encI wr (.slice (some ⟨w3.heap.size + 1, 0, none⟩) 1 1) [2] ∧ Own w.heap.size 3 1 encI wr (.slice (some ⟨w4.heap.size, 0, none⟩) 1 1) [yc] ∧ TTOwn w.heap.size wr (.slice aq4 ts.length pq4) ts ∧ Dr w b (N + 5 + 17 * (3 - k)) wr ∧ w5.heap.size ≤ wr.heap.size) (fun iv _ => (intOf iv).toNat)
    case atStart => exact ⟨2 + y, [], none, 0, by go_num, by omega, by show 0 + (2 + y) ≤ 3; omega, (fun t ht => by cases ht), Xres_5.out, Xp_5.out, Oq0_5.out, Oq1_5.out, Oq2_5.out, Oq3_5.out, TTOwn.empty (Own.nil _ _ _ _ _), A5.out.mono (by omega), by omega⟩
    case round =>
      obtain ⟨w20, rfl⟩ : ∃ x : World, x = wr := ⟨_, rfl⟩
      obtain ⟨k, ts, aq4, pq4, rfl, hk, htk, ht4, hx, hy, ho0, ho1, ho2, ho3, ho4, hA, hz⟩ := hrel
      have Xres_20 := Lib.hid hx; have Xp_20 := Lib.hid hy; have A20 := Lib.hid hA; have S20 := hA.size; have N20 := hz; have HT4 := Lib.hid ht4; clear hx hy hA hz ht4
      have Oq0_20 := Lib.hid ho0; clear ho0
      have Oq1_20 := Lib.hid ho1; clear ho1
      have Oq2_20 := Lib.hid ho2; clear ho2
      have Oq3_20 := Lib.hid ho3; clear ho3
      have Oq4_20 := Lib.hid ho4; clear ho4
      obtain ⟨cres20_0, cres20_1, cres20_2, cres20_3, cres20_4, fres20_0, fres20_1, fres20_2, fres20_3, fres20_4⟩ := box5 Xres_20.out; have lres20 := heap_lt Xres_20.out
      obtain ⟨cp20_0, cp20_1, cp20_2, cp20_3, cp20_4, fp20_0, fp20_1, fp20_2, fp20_3, fp20_4⟩ := box5 Xp_20.out; have lp20 := heap_lt Xp_20.out
      by_cases hk0 : 0 < k
      · have dk : decide ((0 : Int) < (k : Int)) = true := decide_eq_true (by omega)
        have dkn : decide (0 < k) = true := decide_eq_true hk0
        go_wp2_with (fail)
        refine (numD b (N + 5 + 17 * (3 - k)) _ [2, 3, 1, 4, 0] w _ ((A20.out.alloc _).alloc _) (by omega) (lit_row _ (by decide) rfl rfl (by first | omega | (simp only [szA, szS, szD, World.heap_drewN] at * <;> omega))) (by decide) (by simp [Value.ownBlock]; omega)).mono ?_
        rintro e w21 ⟨m0, rfl, hm0, hd⟩
        have A21x := Lib.hid (Dr.then (((Dr.start A20.out.r).alloc _).alloc _) hd)
        have A21 := Lib.hid (Dr.then ((A20.out.alloc _).alloc _) hd)
        have Z21 := hd.size
        have N21 : w20.heap.size + 2 ≤ w21.heap.size := (by first | with_reducible exact Z21 | (simp only [szA, szS, szD] at Z21; omega))
        clear Z21
        have Xres_21 := Lib.hid (hd.at_ (heap_up (heap_up Xres_20.out)) (by first | omega | (simp only [szA, szS, szD, World.heap_drewN] at * <;> omega)))
        have Xp_21 := Lib.hid (hd.at_ (heap_up (heap_up Xp_20.out)) (by first | omega | (simp only [szA, szS, szD, World.heap_drewN] at * <;> omega)))
        have Xe_21 : Hid (w21.heap[w20.heap.size]? = some (.cells #[] 23 (0, 0))) := hd.at_ (heap_up (heap_at' (n := w20.heap.size) (by first | omega | (simp only [szA, szS, szD, World.heap_drewN] at * <;> omega)))) (by first | omega | (simp only [szA, szS, szD, World.heap_drewN] at * <;> omega))
        have Oq0_21 := Lib.hid (((Oq0_20.out.alloc _).alloc _).past hd.g hlt)
        have Oq1_21 := Lib.hid (((Oq1_20.out.alloc _).alloc _).past hd.g hlt)
        have Oq2_21 := Lib.hid (((Oq2_20.out.alloc _).alloc _).past hd.g hlt)
        have Oq3_21 := Lib.hid (((Oq3_20.out.alloc _).alloc _).past hd.g hlt)
        have Oq4_21 := Lib.hid (((Oq4_20.out.alloc _).alloc _).past hd.g hlt)
        clear hd
        obtain ⟨cres21_0, cres21_1, cres21_2, cres21_3, cres21_4, fres21_0, fres21_1, fres21_2, fres21_3, fres21_4⟩ := box5 Xres_21.out; have lres21 := heap_lt Xres_21.out
        obtain ⟨cp21_0, cp21_1, cp21_2, cp21_3, cp21_4, fp21_0, fp21_1, fp21_2, fp21_3, fp21_4⟩ := box5 Xp_21.out; have lp21 := heap_lt Xp_21.out
        have le21 := heap_lt Xe_21.out
        have S21 : w.heap.size ≤ w21.heap.size := (by omega)
        have hm0b : 0 ≤ m0 ∧ m0 ≤ 4 := by simp at hm0; omega
        obtain ⟨hm00, hm01⟩ := hm0b; clear hm0
        obtain ⟨m0, rfl⟩ := Int.eq_ofNat_of_zero_le hm00
        have hmn : m0 ≤ 4 := by omega
        clear hm00 hm01
        go_wp2_with (fail)
        have hlt20 : b < w20.heap.size := by omega
        go_loopw [7, 8] (fun ov mv wr => ∃ (m : Nat) (ops : List OpT) (ao : Option Addr) (po : Nat), ov = .slice ao ops.length po ∧ mv = .int .i64 m ∧ m ≤ 4 ∧ ops.length + m ≤ 4 ∧ wr.heap[w.heap.size]? = some (.cells #[.slice none 0 0, .slice none 0 0, .slice none 0 0, .slice none 0 0, .slice none 0 0] 34 (0, 0)) ∧ wr.heap[w4.heap.size + 1]? = some (.cells #[.slice (some ⟨w2.heap.size, 0, none⟩) 2 2, .slice (some ⟨w3.heap.size, 0, none⟩) 1 1, .slice (some ⟨w3.heap.size + 1, 0, none⟩) 1 1, .slice (some ⟨w4.heap.size, 0, none⟩) 1 1, .slice aq4 ts.length pq4] 34 (0, 0)) ∧ Own w20.heap.size 23 3 encT wr (.slice ao ops.length po) ops ∧ Dr w20 b (N + 5 + 17 * (3 - k) + 1 + 4 * (4 - m)) wr ∧ w20.heap.size ≤ wr.heap.size) (fun _ mv _ => (intOf mv).toNat)
        case atStart => exact ⟨m0, [], _, _, rfl, rfl, by omega, by show 0 + m0 ≤ 4; omega, Xres_21.out, Xp_21.out, (Own.empty Xe_21.out (by omega)), A21x.out.mono (by omega), by omega⟩
        case round =>
          obtain ⟨w40, rfl⟩ : ∃ x : World, x = wr := ⟨_, rfl⟩
          obtain ⟨m, ops, ao, po, rfl, rfl, hm, hom, hx, hy, hoo, hA, hz⟩ := hrel
          have Xres_40 := Lib.hid hx; have Xp_40 := Lib.hid hy; have A40 := Lib.hid hA; have S40 := hA.size; have N40 := hz; have Oo_40 := Lib.hid hoo
          have Oq0_40 := Lib.hid (Oq0_20.out.past hA.g hlt)
          have Oq1_40 := Lib.hid (Oq1_20.out.past hA.g hlt)
          have Oq2_40 := Lib.hid (Oq2_20.out.past hA.g hlt)
          have Oq3_40 := Lib.hid (Oq3_20.out.past hA.g hlt)
          have Oq4_40 := Lib.hid (Oq4_20.out.past hA.g hlt)
          clear hx hy hA hz hoo
          obtain ⟨cres40_0, cres40_1, cres40_2, cres40_3, cres40_4, fres40_0, fres40_1, fres40_2, fres40_3, fres40_4⟩ := box5 Xres_40.out; have lres40 := heap_lt Xres_40.out
          obtain ⟨cp40_0, cp40_1, cp40_2, cp40_3, cp40_4, fp40_0, fp40_1, fp40_2, fp40_3, fp40_4⟩ := box5 Xp_40.out; have lp40 := heap_lt Xp_40.out
          by_cases hm0 : 0 < m
          · have dm : decide ((0 : Int) < (m : Int)) = true := decide_eq_true (by omega)
            have dmn : decide (0 < m) = true := decide_eq_true hm0
            go_wp2_with (fail)
            refine (l6Op_calls b (N + 5 + 17 * (3 - k) + 1 + 4 * (4 - m)) w.heap.size 0 _ ⟨[ya, 1], [yb], [2], [yc], ts⟩ w20 _ A40.out (by omega) (ProgOwn.make Oq0_40.out Oq1_40.out Oq2_40.out Oq3_40.out Oq4_40.out) hlt).mono ?_
            rintro e w41 ⟨⟨x0, x1, x2⟩, rfl, hxs, hd⟩
            have A41 := Lib.hid (Dr.then A40.out hd)
            have Z41 := hd.size
            have N41 : w40.heap.size ≤ w41.heap.size := (by first | with_reducible exact Z41 | (simp only [szA, szS, szD] at Z41; omega))
            clear Z41
            have Xres_41 := Lib.hid (hd.at_ Xres_40.out (by first | omega | (simp only [szA, szS, szD, World.heap_drewN] at * <;> omega)))
            have Xp_41 := Lib.hid (hd.at_ Xp_40.out (by first | omega | (simp only [szA, szS, szD, World.heap_drewN] at * <;> omega)))
            have Oo_41 := Lib.hid (Oo_40.out.past hd.g hlt20)
            clear hd
            obtain ⟨cres41_0, cres41_1, cres41_2, cres41_3, cres41_4, fres41_0, fres41_1, fres41_2, fres41_3, fres41_4⟩ := box5 Xres_41.out; have lres41 := heap_lt Xres_41.out
            obtain ⟨cp41_0, cp41_1, cp41_2, cp41_3, cp41_4, fp41_0, fp41_1, fp41_2, fp41_3, fp41_4⟩ := box5 Xp_41.out; have lp41 := heap_lt Xp_41.out
            have S41 : w20.heap.size ≤ w41.heap.size := (by omega)
            clear hxs
            go_wp2_with (at_builtin; refine wpList_snoc _ encT_len one_trip rfl _ _ 74 rfl 23 _ 24 Tryd.underlying74 info_Op rfl (by decide) w20.heap.size (.slice ao ops.length po) ops rfl Oo_41.out (x0, x1, x2) _ rfl _ rfl (by first | omega | (simp only [szA, szS, szD, World.heap_drewN] at * <;> omega)) (by decide) (by omega) (by first | omega | (simp only [szA, szS, szD, World.heap_drewN] at * <;> omega)) ?_; intro ad42 cp42 w42 hown hg hat; obtain ⟨oL42, hoL42⟩ : ∃ l, ops ++ [(x0, x1, x2)] = l := ⟨_, rfl⟩; have loL42 : ops.length + 1 = oL42.length := (by rw [← hoL42, List.length_append, List.length_singleton]); rw [hoL42, loL42] at hown; rw [loL42]; have HoL42 := Lib.hid hoL42; clear hoL42; have KoL42 := Lib.hid loL42; clear loL42; rw [KoL42.out] at hat; clear hat; have Xres_42 := Lib.hid (grown_at2 hg (heap_up Xres_41.out) (Oo_41.out.ne Xres_41.out (by decide))); have Xp_42 := Lib.hid (grown_at2 hg (heap_up Xp_41.out) (Oo_41.out.ne Xp_41.out (by decide))); have Oo_42 := Lib.hid hown; have A42 := Lib.hid (Dr.own (A41.out.alloc _) hg (fun g e => Oo_41.out.blk g e)); have N42 : w41.heap.size + 1 ≤ w42.heap.size := (by first | with_reducible exact hg.size | (have := hg.size; simp only [szA, szS, szD] at this; omega)); clear hown hg; obtain ⟨cres42_0, cres42_1, cres42_2, cres42_3, cres42_4, fres42_0, fres42_1, fres42_2, fres42_3, fres42_4⟩ := box5 Xres_42.out; have lres42 := heap_lt Xres_42.out; obtain ⟨cp42_0, cp42_1, cp42_2, cp42_3, cp42_4, fp42_0, fp42_1, fp42_2, fp42_3, fp42_4⟩ := box5 Xp_42.out; have lp42 := heap_lt Xp_42.out; have S42 : w20.heap.size ≤ w42.heap.size := (by omega))
            clear cres41_0 cres41_1 cres41_2 cres41_3 cres41_4 fres41_0 fres41_1 fres41_2 fres41_3 fres41_4 cp41_0 cp41_1 cp41_2 cp41_3 cp41_4 fp41_0 fp41_1 fp41_2 fp41_3 fp41_4
            go_roundw
            case rel => exact ⟨m - 1, oL42, _, _, rfl, by go_num, by omega, by have := KoL42.out; omega, Xres_42.out, Xp_42.out, Oo_42.out, A42.out.mono (by omega), by first | omega | (simp only [szA, szS, szD]; omega)⟩
            case measure => (simp [intOf] <;> omega)
          · have dm : decide ((0 : Int) < (m : Int)) = false := decide_eq_false (by omega)
            have dmn : decide (0 < m) = false := decide_eq_false hm0
            have hol : ops.length ≤ 4 := by omega
            have htl : ts.length ≤ 3 := by omega
            have A40' := Lib.hid (Dr.then A20.out A40.out)
            clear A40
            have A40 := A40'
            clear A40'
            have Oo_40' := Lib.hid (Own.mono (base' := w.heap.size) Oo_40.out S20)
            clear Oo_40
            have Oo_40 := Oo_40'
            clear Oo_40'
            clear S40
            have S40 : w.heap.size ≤ w40.heap.size := by omega
            go_wp2_with (at_builtin; obtain ⟨us, hus, hin⟩ := Oq4_40.out; have hul : us.length = ts.length := hin.1; have hus2 : Own w.heap.size 74 1 encS _ (.slice aq4 us.length pq4) us := (by rw [hul]; exact hus); refine wpList_snoc _ encS_len one_sv rfl _ _ 32 rfl 74 _ 24 Tryd.underlying32 info_Ops rfl (by decide) w.heap.size (.slice aq4 ts.length pq4) us rfl hus (ao, ops.length, po) _ rfl _ rfl (by first | omega | (simp only [szA, szS, szD, World.heap_drewN] at * <;> omega)) (by decide) (by omega) (by first | omega | (simp only [szA, szS, szD, World.heap_drewN] at * <;> omega)) ?_; intro ad41 cp41 w41 hown hg hat; obtain ⟨q4L41, hq4L41⟩ : ∃ l, ts ++ [ops] = l := ⟨_, rfl⟩; have lq4L41 : us.length + 1 = q4L41.length := (by rw [← hq4L41, List.length_append, List.length_singleton, hul]); rw [lq4L41] at hown; rw [lq4L41]; clear hat; have hua := hus.alloc (.cells #[.slice ao ops.length po] 74); have Xres_41 := Lib.hid (grown_at2 hg (heap_up Xres_40.out) (hua.ne (heap_up Xres_40.out) (by decide))); have Xp_41 := Lib.hid (grown_at2 hg (heap_up Xp_40.out) (hua.ne (heap_up Xp_40.out) (by decide))); have Oq0_41 := Lib.hid ((Oq0_40.out.alloc _).apart hg (Own.apart_types hua (Oq0_40.out.alloc _) (by decide))); have Oq1_41 := Lib.hid ((Oq1_40.out.alloc _).apart hg (Own.apart_types hua (Oq1_40.out.alloc _) (by decide))); have Oq2_41 := Lib.hid ((Oq2_40.out.alloc _).apart hg (Own.apart_types hua (Oq2_40.out.alloc _) (by decide))); have Oq3_41 := Lib.hid ((Oq3_40.out.alloc _).apart hg (Own.apart_types hua (Oq3_40.out.alloc _) (by decide))); have Oo_41 := Lib.hid ((Oo_40.out.alloc _).apart hg (Own.apart_types hua (Oo_40.out.alloc _) (by decide))); have hbb : Below (w40).heap.size (w40) ((w40.alloc (.cells #[.slice ao ops.length po] 74))) := Below.alloc (Below.refl _ _) (Nat.le_refl _) _; have hg2 : World.grownBy ((w40.alloc (.cells #[.slice ao ops.length po] 74))) w41 (Value.slice aq4 us.length pq4).ownBlock := (by rw [hul]; exact hg); have Oq4_41 := Lib.hid (TTOwn.more hin hus2 Oo_41.out hbb hg2 hq4L41 hown); have A41 := Lib.hid (Dr.own (A40.out.alloc _) hg (fun g e => hus.blk g e)); have N41 : w40.heap.size + 1 ≤ w41.heap.size := (by first | with_reducible exact hg.size | (have := hg.size; simp only [szA, szS, szD] at this; omega)); have Kq4L41 := Lib.hid (show ts.length + 1 = q4L41.length from (by rw [← hul]; exact lq4L41)); have Hq4L41 := Lib.hid hq4L41; clear hq4L41 lq4L41 hbb hg2 hus2 hin hul hua hus hown hg; obtain ⟨cres41_0, cres41_1, cres41_2, cres41_3, cres41_4, fres41_0, fres41_1, fres41_2, fres41_3, fres41_4⟩ := box5 Xres_41.out; have lres41 := heap_lt Xres_41.out; obtain ⟨cp41_0, cp41_1, cp41_2, cp41_3, cp41_4, fp41_0, fp41_1, fp41_2, fp41_3, fp41_4⟩ := box5 Xp_41.out; have lp41 := heap_lt Xp_41.out; have S41 : w.heap.size ≤ w41.heap.size := (by omega))
            go_roundw
            case rel => exact ⟨k - 1, q4L41, _, _, by go_num, by omega, by have := Kq4L41.out; omega, (by rw [← Hq4L41.out]; exact snoc_all HT4.out hol), (set_off (a := ⟨w4.heap.size + 1, 4, none⟩) Xres_41.out (by first | omega | (simp only [szA, szS, szD, World.heap_drewN] at * <;> omega)) (.slice ad41 q4L41.length cp41)), (set_at (a := ⟨w4.heap.size + 1, 4, none⟩) Xp_41.out rfl rfl (.slice ad41 q4L41.length cp41)), (Oq0_41.out.setB (w4.heap.size + 1) 4 Xp_41.out (by decide) (.slice ad41 q4L41.length cp41)), (Oq1_41.out.setB (w4.heap.size + 1) 4 Xp_41.out (by decide) (.slice ad41 q4L41.length cp41)), (Oq2_41.out.setB (w4.heap.size + 1) 4 Xp_41.out (by decide) (.slice ad41 q4L41.length cp41)), (Oq3_41.out.setB (w4.heap.size + 1) 4 Xp_41.out (by decide) (.slice ad41 q4L41.length cp41)), (Oq4_41.out.setB (w4.heap.size + 1) 4 Xp_41.out (by decide) (.slice ad41 q4L41.length cp41)), (A41.out.set (a := ⟨w4.heap.size + 1, 4, none⟩) (by first | omega | (simp only [szA, szS, szD, World.heap_drewN] at * <;> omega)) (.slice ad41 q4L41.length cp41)).mono (by omega), by first | omega | (simp only [szA, szS, szD]; omega)⟩
            case measure => (simp [intOf] <;> omega)
      · have dk : decide ((0 : Int) < (k : Int)) = false := decide_eq_false (by omega)
        have dkn : decide (0 < k) = false := decide_eq_false hk0
        have htl : ts.length ≤ 3 := by omega
        have ne_p_res : w4.heap.size + 1 ≠ w.heap.size := by omega
        have nf_p_res := ne_p_res.symm
        go_wp2_with (fail)
        refine bodyPost_ret (v := .agg #[.slice (some ⟨w2.heap.size, 0, none⟩) 2 2, .slice (some ⟨w3.heap.size, 0, none⟩) 1 1, .slice (some ⟨w3.heap.size + 1, 0, none⟩) 1 1, .slice (some ⟨w4.heap.size, 0, none⟩) 1 1, .slice aq4 ts.length pq4]) (by simp [results, Tryd.results25, go_sem, cres20_0, cres20_1, cres20_2, cres20_3, cres20_4, lres20, cp20_0, cp20_1, cp20_2, cp20_3, cp20_4, lp20, ne_p_res, nf_p_res]) rfl ⟨_, ⟨[ya, 1], [yb], [2], [yc], ts⟩, rfl, (ProgOwn.make (((((Oq0_20.out.setB (w.heap.size) 0 Xres_20.out (by decide) (.slice (some ⟨w2.heap.size, 0, none⟩) 2 2)).setB (w.heap.size) 1 (set_at (a := ⟨w.heap.size, 0, none⟩) Xres_20.out rfl rfl (.slice (some ⟨w2.heap.size, 0, none⟩) 2 2)) (by decide) (.slice (some ⟨w3.heap.size, 0, none⟩) 1 1)).setB (w.heap.size) 2 (set_at (a := ⟨w.heap.size, 1, none⟩) (set_at (a := ⟨w.heap.size, 0, none⟩) Xres_20.out rfl rfl (.slice (some ⟨w2.heap.size, 0, none⟩) 2 2)) rfl rfl (.slice (some ⟨w3.heap.size, 0, none⟩) 1 1)) (by decide) (.slice (some ⟨w3.heap.size + 1, 0, none⟩) 1 1)).setB (w.heap.size) 3 (set_at (a := ⟨w.heap.size, 2, none⟩) (set_at (a := ⟨w.heap.size, 1, none⟩) (set_at (a := ⟨w.heap.size, 0, none⟩) Xres_20.out rfl rfl (.slice (some ⟨w2.heap.size, 0, none⟩) 2 2)) rfl rfl (.slice (some ⟨w3.heap.size, 0, none⟩) 1 1)) rfl rfl (.slice (some ⟨w3.heap.size + 1, 0, none⟩) 1 1)) (by decide) (.slice (some ⟨w4.heap.size, 0, none⟩) 1 1)).setB (w.heap.size) 4 (set_at (a := ⟨w.heap.size, 3, none⟩) (set_at (a := ⟨w.heap.size, 2, none⟩) (set_at (a := ⟨w.heap.size, 1, none⟩) (set_at (a := ⟨w.heap.size, 0, none⟩) Xres_20.out rfl rfl (.slice (some ⟨w2.heap.size, 0, none⟩) 2 2)) rfl rfl (.slice (some ⟨w3.heap.size, 0, none⟩) 1 1)) rfl rfl (.slice (some ⟨w3.heap.size + 1, 0, none⟩) 1 1)) rfl rfl (.slice (some ⟨w4.heap.size, 0, none⟩) 1 1)) (by decide) (.slice aq4 ts.length pq4)) (((((Oq1_20.out.setB (w.heap.size) 0 Xres_20.out (by decide) (.slice (some ⟨w2.heap.size, 0, none⟩) 2 2)).setB (w.heap.size) 1 (set_at (a := ⟨w.heap.size, 0, none⟩) Xres_20.out rfl rfl (.slice (some ⟨w2.heap.size, 0, none⟩) 2 2)) (by decide) (.slice (some ⟨w3.heap.size, 0, none⟩) 1 1)).setB (w.heap.size) 2 (set_at (a := ⟨w.heap.size, 1, none⟩) (set_at (a := ⟨w.heap.size, 0, none⟩) Xres_20.out rfl rfl (.slice (some ⟨w2.heap.size, 0, none⟩) 2 2)) rfl rfl (.slice (some ⟨w3.heap.size, 0, none⟩) 1 1)) (by decide) (.slice (some ⟨w3.heap.size + 1, 0, none⟩) 1 1)).setB (w.heap.size) 3 (set_at (a := ⟨w.heap.size, 2, none⟩) (set_at (a := ⟨w.heap.size, 1, none⟩) (set_at (a := ⟨w.heap.size, 0, none⟩) Xres_20.out rfl rfl (.slice (some ⟨w2.heap.size, 0, none⟩) 2 2)) rfl rfl (.slice (some ⟨w3.heap.size, 0, none⟩) 1 1)) rfl rfl (.slice (some ⟨w3.heap.size + 1, 0, none⟩) 1 1)) (by decide) (.slice (some ⟨w4.heap.size, 0, none⟩) 1 1)).setB (w.heap.size) 4 (set_at (a := ⟨w.heap.size, 3, none⟩) (set_at (a := ⟨w.heap.size, 2, none⟩) (set_at (a := ⟨w.heap.size, 1, none⟩) (set_at (a := ⟨w.heap.size, 0, none⟩) Xres_20.out rfl rfl (.slice (some ⟨w2.heap.size, 0, none⟩) 2 2)) rfl rfl (.slice (some ⟨w3.heap.size, 0, none⟩) 1 1)) rfl rfl (.slice (some ⟨w3.heap.size + 1, 0, none⟩) 1 1)) rfl rfl (.slice (some ⟨w4.heap.size, 0, none⟩) 1 1)) (by decide) (.slice aq4 ts.length pq4)) (((((Oq2_20.out.setB (w.heap.size) 0 Xres_20.out (by decide) (.slice (some ⟨w2.heap.size, 0, none⟩) 2 2)).setB (w.heap.size) 1 (set_at (a := ⟨w.heap.size, 0, none⟩) Xres_20.out rfl rfl (.slice (some ⟨w2.heap.size, 0, none⟩) 2 2)) (by decide) (.slice (some ⟨w3.heap.size, 0, none⟩) 1 1)).setB (w.heap.size) 2 (set_at (a := ⟨w.heap.size, 1, none⟩) (set_at (a := ⟨w.heap.size, 0, none⟩) Xres_20.out rfl rfl (.slice (some ⟨w2.heap.size, 0, none⟩) 2 2)) rfl rfl (.slice (some ⟨w3.heap.size, 0, none⟩) 1 1)) (by decide) (.slice (some ⟨w3.heap.size + 1, 0, none⟩) 1 1)).setB (w.heap.size) 3 (set_at (a := ⟨w.heap.size, 2, none⟩) (set_at (a := ⟨w.heap.size, 1, none⟩) (set_at (a := ⟨w.heap.size, 0, none⟩) Xres_20.out rfl rfl (.slice (some ⟨w2.heap.size, 0, none⟩) 2 2)) rfl rfl (.slice (some ⟨w3.heap.size, 0, none⟩) 1 1)) rfl rfl (.slice (some ⟨w3.heap.size + 1, 0, none⟩) 1 1)) (by decide) (.slice (some ⟨w4.heap.size, 0, none⟩) 1 1)).setB (w.heap.size) 4 (set_at (a := ⟨w.heap.size, 3, none⟩) (set_at (a := ⟨w.heap.size, 2, none⟩) (set_at (a := ⟨w.heap.size, 1, none⟩) (set_at (a := ⟨w.heap.size, 0, none⟩) Xres_20.out rfl rfl (.slice (some ⟨w2.heap.size, 0, none⟩) 2 2)) rfl rfl (.slice (some ⟨w3.heap.size, 0, none⟩) 1 1)) rfl rfl (.slice (some ⟨w3.heap.size + 1, 0, none⟩) 1 1)) rfl rfl (.slice (some ⟨w4.heap.size, 0, none⟩) 1 1)) (by decide) (.slice aq4 ts.length pq4)) (((((Oq3_20.out.setB (w.heap.size) 0 Xres_20.out (by decide) (.slice (some ⟨w2.heap.size, 0, none⟩) 2 2)).setB (w.heap.size) 1 (set_at (a := ⟨w.heap.size, 0, none⟩) Xres_20.out rfl rfl (.slice (some ⟨w2.heap.size, 0, none⟩) 2 2)) (by decide) (.slice (some ⟨w3.heap.size, 0, none⟩) 1 1)).setB (w.heap.size) 2 (set_at (a := ⟨w.heap.size, 1, none⟩) (set_at (a := ⟨w.heap.size, 0, none⟩) Xres_20.out rfl rfl (.slice (some ⟨w2.heap.size, 0, none⟩) 2 2)) rfl rfl (.slice (some ⟨w3.heap.size, 0, none⟩) 1 1)) (by decide) (.slice (some ⟨w3.heap.size + 1, 0, none⟩) 1 1)).setB (w.heap.size) 3 (set_at (a := ⟨w.heap.size, 2, none⟩) (set_at (a := ⟨w.heap.size, 1, none⟩) (set_at (a := ⟨w.heap.size, 0, none⟩) Xres_20.out rfl rfl (.slice (some ⟨w2.heap.size, 0, none⟩) 2 2)) rfl rfl (.slice (some ⟨w3.heap.size, 0, none⟩) 1 1)) rfl rfl (.slice (some ⟨w3.heap.size + 1, 0, none⟩) 1 1)) (by decide) (.slice (some ⟨w4.heap.size, 0, none⟩) 1 1)).setB (w.heap.size) 4 (set_at (a := ⟨w.heap.size, 3, none⟩) (set_at (a := ⟨w.heap.size, 2, none⟩) (set_at (a := ⟨w.heap.size, 1, none⟩) (set_at (a := ⟨w.heap.size, 0, none⟩) Xres_20.out rfl rfl (.slice (some ⟨w2.heap.size, 0, none⟩) 2 2)) rfl rfl (.slice (some ⟨w3.heap.size, 0, none⟩) 1 1)) rfl rfl (.slice (some ⟨w3.heap.size + 1, 0, none⟩) 1 1)) rfl rfl (.slice (some ⟨w4.heap.size, 0, none⟩) 1 1)) (by decide) (.slice aq4 ts.length pq4)) (((((Oq4_20.out.setB (w.heap.size) 0 Xres_20.out (by decide) (.slice (some ⟨w2.heap.size, 0, none⟩) 2 2)).setB (w.heap.size) 1 (set_at (a := ⟨w.heap.size, 0, none⟩) Xres_20.out rfl rfl (.slice (some ⟨w2.heap.size, 0, none⟩) 2 2)) (by decide) (.slice (some ⟨w3.heap.size, 0, none⟩) 1 1)).setB (w.heap.size) 2 (set_at (a := ⟨w.heap.size, 1, none⟩) (set_at (a := ⟨w.heap.size, 0, none⟩) Xres_20.out rfl rfl (.slice (some ⟨w2.heap.size, 0, none⟩) 2 2)) rfl rfl (.slice (some ⟨w3.heap.size, 0, none⟩) 1 1)) (by decide) (.slice (some ⟨w3.heap.size + 1, 0, none⟩) 1 1)).setB (w.heap.size) 3 (set_at (a := ⟨w.heap.size, 2, none⟩) (set_at (a := ⟨w.heap.size, 1, none⟩) (set_at (a := ⟨w.heap.size, 0, none⟩) Xres_20.out rfl rfl (.slice (some ⟨w2.heap.size, 0, none⟩) 2 2)) rfl rfl (.slice (some ⟨w3.heap.size, 0, none⟩) 1 1)) rfl rfl (.slice (some ⟨w3.heap.size + 1, 0, none⟩) 1 1)) (by decide) (.slice (some ⟨w4.heap.size, 0, none⟩) 1 1)).setB (w.heap.size) 4 (set_at (a := ⟨w.heap.size, 3, none⟩) (set_at (a := ⟨w.heap.size, 2, none⟩) (set_at (a := ⟨w.heap.size, 1, none⟩) (set_at (a := ⟨w.heap.size, 0, none⟩) Xres_20.out rfl rfl (.slice (some ⟨w2.heap.size, 0, none⟩) 2 2)) rfl rfl (.slice (some ⟨w3.heap.size, 0, none⟩) 1 1)) rfl rfl (.slice (some ⟨w3.heap.size + 1, 0, none⟩) 1 1)) rfl rfl (.slice (some ⟨w4.heap.size, 0, none⟩) 1 1)) (by decide) (.slice aq4 ts.length pq4))), ⟨by simp, by simp, by simp, by simp, by show ts.length ≤ 8; omega, fun t ht => Nat.le_trans (HT4.out t ht) (by decide)⟩, ⟨by simp, by simp, by simp, by simp, fun x hx => by simp at hx; omega⟩, (((((A20.out.set (a := ⟨w.heap.size, 0, none⟩) (by first | omega | (simp only [szA, szS, szD, World.heap_drewN] at * <;> omega)) (.slice (some ⟨w2.heap.size, 0, none⟩) 2 2)).set (a := ⟨w.heap.size, 1, none⟩) (by first | omega | (simp only [szA, szS, szD, World.heap_drewN] at * <;> omega)) (.slice (some ⟨w3.heap.size, 0, none⟩) 1 1)).set (a := ⟨w.heap.size, 2, none⟩) (by first | omega | (simp only [szA, szS, szD, World.heap_drewN] at * <;> omega)) (.slice (some ⟨w3.heap.size + 1, 0, none⟩) 1 1)).set (a := ⟨w.heap.size, 3, none⟩) (by first | omega | (simp only [szA, szS, szD, World.heap_drewN] at * <;> omega)) (.slice (some ⟨w4.heap.size, 0, none⟩) 1 1)).set (a := ⟨w.heap.size, 4, none⟩) (by first | omega | (simp only [szA, szS, szD, World.heap_drewN] at * <;> omega)) (.slice aq4 ts.length pq4)).mono (by omega)⟩
end Go.Proofs.YthbnbofoefdneaaDoor
