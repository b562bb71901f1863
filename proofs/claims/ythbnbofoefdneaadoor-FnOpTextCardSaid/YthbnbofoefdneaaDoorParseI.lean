/- impl.ParseOp: the reference's operation (made by gen_parsei.py). -/
import Derived.Test.YthbnbofoefdneaaDoorNumI
import Derived.Test.YthbnbofoefdneaaDoorParIP
import Derived.Test.YthbnbofoefdneaaDoorRg2
import Derived.LoopN
namespace Go.Proofs.YthbnbofoefdneaaDoor
open Go.RowKit
set_option linter.unusedSimpArgs false
set_option linter.unusedVariables false
set_option maxRecDepth 100000 in
set_option maxHeartbeats 16000000 in
theorem ParseOp_calls (text : ByteArray) (w : World) (hL : LaidP w) (ht : text.size ≤ 2000000) :
    Calls Tryd.prog 6 #[.string text] w fun e w' => ∃ r : Option OpT, e = .returned (.tuple #[opv (optO r), .bool r.isSome]) ∧ ParEnd text r ∧ Below w.heap.size w w' := by
  obtain ⟨ws, hws⟩ : ∃ ws, cutB text 32 = ws := ⟨_, rfl⟩
  have hw1 := (cutB_len text 32).1; have hw2 := (cutB_len text 32).2
  rw [hws] at hw1 hw2
  have HWS := Lib.hid hws; have HL := Lib.hid hL; clear hws
  obtain ⟨x0, hx0⟩ := get_ex (show 0 < ws.length by omega)
  have HX0 := Lib.hid hx0; clear hx0
  obtain ⟨tb, toff, tcp, hg, hc1, hc2, hgl, hbl, htab⟩ := hL.1.2
  have HT := Lib.hid htab; have HG := Lib.hid hg; clear htab hg hL
  go_enter Tryd.func6, Tryd.ntmps6
  go_wp2_with (fail)
  refine (split_calls text ws _ ht (HL.out.2.2.below (Below.alloc (Below.refl _ _) (by first | omega | (simp only [szA, szS, szD, World.heap_drewN] at * <;> omega)) _)) HWS.out).mono ?_
  rintro e w1 ⟨zb, rfl, hzb, hoz, hb⟩
  have B1 := Lib.hid (Below.trans (Below.alloc (Below.refl _ _) (by first | omega | (simp only [szA, szS, szD, World.heap_drewN] at * <;> omega)) _) (hb.mono (by first | omega | (simp only [szA, szS, szD, World.heap_drewN] at * <;> omega))) : Below w.heap.size w w1)
  have Z1 := hb.size
  have N1 : w.heap.size + 1 ≤ w1.heap.size := (by first | with_reducible exact Z1 | (simp only [szA, szS, szD] at Z1; omega))
  clear Z1
  have Xr_1 : Hid (w1.heap[w.heap.size]? = some (.cells #[.int .i64 0, .int .i64 0, .int .i64 0] 23 (0, 0))) := below_at hb (heap_at' (n := w.heap.size) (by first | omega | (simp only [szA, szS, szD, World.heap_drewN] at * <;> omega)))
  clear hb
  obtain ⟨cr1_0, cr1_1, cr1_2, fr1_0, fr1_1, fr1_2⟩ := box3 Xr_1.out; have lr1 := heap_lt Xr_1.out
  have S1 : w.heap.size ≤ w1.heap.size := (by omega)
  have Oz_1 := Lib.hid (Own.mono (base' := w.heap.size) hoz (by first | omega | (simp only [szA, szS, szD, World.heap_drewN] at * <;> omega))); clear hoz
  replace hzb : w.heap.size + 1 ≤ zb := (by first | exact hzb | (simp only [szA] at hzb; exact hzb))
  go_wp2_with (fail)
  go_loopw [5] (fun kv wr => ∃ k : Nat, kv = .int .i64 k ∧ 1 ≤ k ∧ k ≤ 11 ∧ KW ws k ∧ Own w.heap.size 9 1 encZ wr (.slice (some ⟨zb, 0, none⟩) ws.length ws.length) ws ∧ wr.heap[w.heap.size]? = some (.cells #[.int .i64 0, .int .i64 0, .int .i64 0] 23 (0, 0)) ∧ Below w.heap.size w wr) (fun kv _ => 11 - (intOf kv).toNat)
  case atStart => exact ⟨1, rfl, by omega, by omega, KW.start ws, Oz_1.out, Xr_1.out, B1.out⟩
  case round =>
    obtain ⟨w20, rfl⟩ : ∃ x : World, x = wr := ⟨_, rfl⟩
    obtain ⟨k, rfl, hk1, hk2, hkw, hz, hx, hb⟩ := hrel
    have B20 := Lib.hid hb; have S20 := hb.size; have Oz_20 := Lib.hid hz; have Xr_20 := Lib.hid hx; have HKW := Lib.hid hkw; clear hb hz hx hkw
    obtain ⟨cr20_0, cr20_1, cr20_2, fr20_0, fr20_1, fr20_2⟩ := box3 Xr_20.out; have lr20 := heap_lt Xr_20.out
    obtain ⟨cz0, hzl⟩ := zrow_cell (Oz_20.out.row encZ_len) HX0.out
    have g0 := (B20.out.cell (p := ⟨_, 0, none⟩) hgl).trans HG.out
    by_cases hlt : k < 11
    · have d1 : decide ((k : Int) < 11) = true := decide_eq_true (by omega)
      obtain ⟨x, hx⟩ := tab_ex (show k < 11 by omega)
      obtain ⟨e0, e1, e2⟩ := HT.out k x hx
      obtain ⟨hw, hba⟩ := tab_word hx
      obtain ⟨hbo, hbr⟩ := hba (by omega)
      clear hx
      obtain ⟨wl, bo, br⟩ := x
      dsimp only at e0 e1 e2 hw hbo hbr
      obtain ⟨s, hs⟩ : ∃ s : ByteArray, ⟨wl.toArray⟩ = s := ⟨_, rfl⟩
      rw [hs] at e0 hw
      clear hs hba
      have HW := Lib.hid hw; clear hw
      replace e0 := (B20.out.cell (p := ⟨tb, _, none⟩) hbl).trans e0
      replace e1 := (B20.out.cell (p := ⟨tb, _, none⟩) hbl).trans e1
      replace e2 := (B20.out.cell (p := ⟨tb, _, none⟩) hbl).trans e2
      have d3 : (0 : Int) ≤ (k : Int) := by omega
      have d4 : (k : Int) < 11 := by omega
      have HBO := Lib.hid hbo; have HBR := Lib.hid hbr; clear hbo hbr
      by_cases he : s = x0
      · have q1 := str_eq he
        have HEQ := Lib.hid he; clear he
        go_wp2_with (fail)
        have hN0 : w20.heap.size + 1 ≤ (w20.alloc (.cells #[.string s, .bool bo, .bool br] 48)).heap.size := (by first | omega | (simp only [szA, szS, szD, World.heap_drewN] at * <;> omega))
        have hzl20 : zb < w20.heap.size + 1 := by omega
        have c0_0 : (w20.alloc (.cells #[.string s, .bool bo, .bool br] 48)).drew.cell? ⟨zb, 0, none⟩ = some (.string x0) := (zrow_cell ((Oz_20.out.alloc _).row encZ_len) HX0.out).1
        have hw0 : 0 < ws.length := hw1
        refine wp_region_L [⟨0, false, [], fun _ v _ => v = .pointer (some ⟨w20.heap.size, 0, none⟩)⟩, ⟨1, false, [0], fun _ v _ => v = .string s⟩, ⟨2, false, [], fun _ v _ => v = .slice (some ⟨zb, 0, none⟩) ws.length ws.length⟩, ⟨3, false, [2], fun _ v _ => v = .pointer (some ⟨zb, 0, none⟩)⟩, ⟨4, false, [2, 3], fun _ v _ => v = .string x0⟩, ⟨5, false, [0, 1, 2, 3, 4], fun _ v _ => v = .bool false⟩] [(0, some 25), (1, some 26), (2, some 27), (3, some 28), (4, some 29), (5, some 30)] (fun _ w' => Below w.heap.size w w' ∧ w20.heap.size + 1 ≤ w'.heap.size ∧ w'.heap[w20.heap.size]? = some (.cells #[.string s, .bool bo, .bool br] 48 (0, 0)) ∧ w'.heap[w.heap.size]? = some (.cells #[.int .i64 0, .int .i64 0, .int .i64 0] 23 (0, 0)) ∧ Own w.heap.size 9 1 encZ w' (.slice (some ⟨zb, 0, none⟩) ws.length ws.length) ws ∧ w'.cell? ⟨zb, 0, none⟩ = some (.string x0)) (fun _ _ _ => True) (by kernel_rfl) (by rfl) (by kernel_rfl) (by kernel_rfl) ⟨((Below.alloc B20.out (by first | omega | (simp only [szA, szS, szD, World.heap_drewN] at * <;> omega)) _)).drew, hN0, (heap_drew (heap_at' (n := w20.heap.size) (by first | omega | (simp only [szA, szS, szD, World.heap_drewN] at * <;> omega)))), (heap_drew (heap_up Xr_20.out)), (Oz_20.out.alloc _), c0_0⟩ (GoalsL.cons ?_ (GoalsL.cons ?_ (GoalsL.cons ?_ (GoalsL.cons ?_ (GoalsL.cons ?_ (GoalsL.cons ?_ (GoalsL.nil))))))) ?_
        · refine GoalL.mk0 (by rfl) ?_; rintro f u wq hf ⟨hA, hN, x_p, x_r, o_z, c_0⟩ hD K hK; clear hD; simp only [put9] at hK ⊢
          refine Closed.mk ?_; go_simp
          exact hK.out _ _ ⟨hA, hN, x_p, x_r, o_z, c_0⟩ trivial rfl
        · refine GoalL.mk0 (by rfl) ?_; rintro f u wq hf ⟨hA, hN, x_p, x_r, o_z, c_0⟩ hD K hK; have e0 : u 0 = _ := hD.1; clear hD; simp only [put9, e0] at hK ⊢
          obtain ⟨kp_0, kp_1, kp_2, fp_0, fp_1, fp_2⟩ := box3 x_p; refine Closed.mk ?_; go_simp
          exact hK.out _ _ ⟨hA, hN, x_p, x_r, o_z, c_0⟩ trivial rfl
        · refine GoalL.mk0 (by rfl) ?_; rintro f u wq hf ⟨hA, hN, x_p, x_r, o_z, c_0⟩ hD K hK; clear hD; simp only [put9] at hK ⊢
          refine Closed.mk ?_; go_simp
          exact hK.out _ _ ⟨hA, hN, x_p, x_r, o_z, c_0⟩ trivial rfl
        · refine GoalL.mk0 (by rfl) ?_; rintro f u wq hf ⟨hA, hN, x_p, x_r, o_z, c_0⟩ hD K hK; have e2 : u 2 = _ := hD.1; clear hD; simp only [put9, e2] at hK ⊢
          refine Closed.mk ?_; go_simp
          exact hK.out _ _ ⟨hA, hN, x_p, x_r, o_z, c_0⟩ trivial rfl
        · refine GoalL.mk0 (by rfl) ?_; rintro f u wq hf ⟨hA, hN, x_p, x_r, o_z, c_0⟩ hD K hK; have e2 : u 2 = _ := hD.1; have e3 : u 3 = _ := hD.2.1; clear hD; simp only [put9, e2, e3] at hK ⊢
          refine Closed.mk ?_; go_simp
          exact hK.out _ _ ⟨hA, hN, x_p, x_r, o_z, c_0⟩ trivial rfl
        · refine GoalL.mk0 (by rfl) ?_; rintro f u wq hf ⟨hA, hN, x_p, x_r, o_z, c_0⟩ hD K hK; have e0 : u 0 = _ := hD.1; have e1 : u 1 = _ := hD.2.1; have e2 : u 2 = _ := hD.2.2.1; have e3 : u 3 = _ := hD.2.2.2.1; have e4 : u 4 = _ := hD.2.2.2.2.1; clear hD; simp only [put9, e0, e1, e2, e3, e4] at hK ⊢
          refine Closed.mk ?_; go_simp
          exact hK.out _ _ ⟨hA, hN, x_p, x_r, o_z, c_0⟩ trivial rfl
        intro u w21 hC hD
        have hA := hC.1; have hN := hC.2.1; have x_p := hC.2.2.1; have x_r := hC.2.2.2.1; have o_z := hC.2.2.2.2.1; have c_0 := hC.2.2.2.2.2; clear hC
        have e0 : u 0 = _ := hD.1; have e1 : u 1 = _ := hD.2.1; have e2 : u 2 = _ := hD.2.2.1; have e3 : u 3 = _ := hD.2.2.2.1; have e4 : u 4 = _ := hD.2.2.2.2.1; have e5 : u 5 = _ := hD.2.2.2.2.2.1; clear hD
        have B21 := Lib.hid hA; have N21 := hN; have S21 := hA.size
        have Xp_21 := Lib.hid x_p; clear x_p
        have Xr_21 := Lib.hid x_r; clear x_r
        have Oz_21 := Lib.hid o_z; clear o_z
        obtain ⟨cp21_0, cp21_1, cp21_2, fp21_0, fp21_1, fp21_2⟩ := box3 Xp_21.out; have lp21 := heap_lt Xp_21.out
        obtain ⟨cr21_0, cr21_1, cr21_2, fr21_0, fr21_1, fr21_2⟩ := box3 Xr_21.out; have lr21 := heap_lt Xr_21.out
        clear hA hN
        simp only [put9, e0, e1, e2, e3, e4, e5]
        refine Closed.mk (wpAnyH_done (by kernel_rfl) ?_ _)
        clear cz0 hzl q1
        have HPE := Lib.hid (parEnd_hit HWS.out HX0.out (show Kd (k : Int) from ⟨by omega, by omega⟩) (by rw [← HEQ.out, HW.out]))
        rcases argsN_three (k : Int) with ha | ha | ha
        · have HA := Lib.hid ha; clear ha
          obtain rfl : bo = false := by rw [HBO.out, HA.out]; rfl
          obtain rfl : br = true := by rw [HBR.out, HA.out]; rfl
          by_cases hl1 : ws.length = 1
          · have s1 : ((0 : Int) == 0) = true := rfl
            go_wp2_with (fail)
            refine wp_loop_rounds 3 ?_
            obtain ⟨w22, hw⟩ : ∃ x : World, x = ((w21.alloc (.cells #[.int .i64 (k : Int), .int .i64 0, .int .i64 0] 23)).alloc (.cells #[.bool false, .pointer (some ⟨w21.heap.size, 1, none⟩), .bool true, .pointer (some ⟨w21.heap.size, 2, none⟩)] 50)) := ⟨_, rfl⟩
            have B22 := Lib.hid (show Below w.heap.size w w22 by rw [hw]; exact (Below.alloc (Below.alloc B21.out (by first | omega | (simp only [szA, szS, szD, World.heap_drewN] at * <;> omega)) _) (by first | omega | (simp only [szA, szS, szD, World.heap_drewN] at * <;> omega)) _))
            have N22 : w21.heap.size + 2 ≤ w22.heap.size := (by rw [hw]; simp only [szS, szA]; omega)
            have Oz_22 := Lib.hid (show Own w.heap.size 9 1 encZ w22 (.slice (some ⟨zb, 0, none⟩) ws.length ws.length) ws by rw [hw]; exact ((Oz_21.out.alloc _).alloc _))
            have Xp_22 := Lib.hid (show w22.heap[w20.heap.size]? = some (.cells #[.string s, .bool false, .bool true] 48 (0, 0)) by rw [hw]; exact (heap_up (heap_up Xp_21.out)))
            have Xr_22 := Lib.hid (show w22.heap[w.heap.size]? = some (.cells #[.int .i64 0, .int .i64 0, .int .i64 0] 23 (0, 0)) by rw [hw]; exact (heap_up (heap_up Xr_21.out)))
            have Xo_22 := Lib.hid (show w22.heap[w21.heap.size]? = some (.cells #[.int .i64 (k : Int), .int .i64 0, .int .i64 0] 23 (0, 0)) by rw [hw]; exact (heap_up (heap_at' (n := w21.heap.size) (by first | omega | (simp only [szA, szS, szD, World.heap_drewN] at * <;> omega)))))
            have Xlit_22 := Lib.hid (show w22.heap[w21.heap.size + 1]? = some (.cells #[.bool false, .pointer (some ⟨w21.heap.size, 1, none⟩), .bool true, .pointer (some ⟨w21.heap.size, 2, none⟩)] 50 (0, 0)) by rw [hw]; exact (heap_at' (n := w21.heap.size + 1) (by first | omega | (simp only [szA, szS, szD, World.heap_drewN] at * <;> omega))))
            have Q22 := Lib.hid (show w22.heap.size = w21.heap.size + 2 by rw [hw]; simp only [szS, szA])
            have HW22 := Lib.hid hw; clear hw
            obtain ⟨cp22_0, cp22_1, cp22_2, fp22_0, fp22_1, fp22_2⟩ := box3 Xp_22.out; have lp22 := heap_lt Xp_22.out
            obtain ⟨cr22_0, cr22_1, cr22_2, fr22_0, fr22_1, fr22_2⟩ := box3 Xr_22.out; have lr22 := heap_lt Xr_22.out
            obtain ⟨co22_0, co22_1, co22_2, fo22_0, fo22_1, fo22_2⟩ := box3 Xo_22.out; have lo22 := heap_lt Xo_22.out
            obtain ⟨clit22_0, clit22_1, clit22_2, clit22_3, flit22_0, flit22_1, flit22_2, flit22_3⟩ := box4 Xlit_22.out; have llit22 := heap_lt Xlit_22.out
            have S22 : w.heap.size ≤ w22.heap.size := (by omega)
            rw [← HW22.out]
            rw [rounds_succ]
            go_wp2_with (fail)
            obtain ⟨w23, hw⟩ : ∃ x : World, x = (w22.alloc (.cells #[.bool false, .pointer (some ⟨w21.heap.size, 1, none⟩)] 50)) := ⟨_, rfl⟩
            have B23 := Lib.hid (show Below w.heap.size w w23 by rw [hw]; exact (Below.alloc B22.out (by first | omega | (simp only [szA, szS, szD, World.heap_drewN] at * <;> omega)) _))
            have N23 : w22.heap.size + 1 ≤ w23.heap.size := (by rw [hw]; simp only [szS, szA]; omega)
            have Oz_23 := Lib.hid (show Own w.heap.size 9 1 encZ w23 (.slice (some ⟨zb, 0, none⟩) ws.length ws.length) ws by rw [hw]; exact (Oz_22.out.alloc _))
            have Xp_23 := Lib.hid (show w23.heap[w20.heap.size]? = some (.cells #[.string s, .bool false, .bool true] 48 (0, 0)) by rw [hw]; exact (heap_up Xp_22.out))
            have Xr_23 := Lib.hid (show w23.heap[w.heap.size]? = some (.cells #[.int .i64 0, .int .i64 0, .int .i64 0] 23 (0, 0)) by rw [hw]; exact (heap_up Xr_22.out))
            have Xo_23 := Lib.hid (show w23.heap[w21.heap.size]? = some (.cells #[.int .i64 (k : Int), .int .i64 0, .int .i64 0] 23 (0, 0)) by rw [hw]; exact (heap_up Xo_22.out))
            have Xlit_23 := Lib.hid (show w23.heap[w21.heap.size + 1]? = some (.cells #[.bool false, .pointer (some ⟨w21.heap.size, 1, none⟩), .bool true, .pointer (some ⟨w21.heap.size, 2, none⟩)] 50 (0, 0)) by rw [hw]; exact (heap_up Xlit_22.out))
            have Xf0_23 := Lib.hid (show w23.heap[w22.heap.size]? = some (.cells #[.bool false, .pointer (some ⟨w21.heap.size, 1, none⟩)] 50 (0, 0)) by rw [hw]; exact (heap_at' (n := w22.heap.size) (by first | omega | (simp only [szA, szS, szD, World.heap_drewN] at * <;> omega))))
            have Q23 := Lib.hid (show w23.heap.size = w22.heap.size + 1 by rw [hw]; simp only [szS, szA])
            have HW23 := Lib.hid hw; clear hw
            obtain ⟨cp23_0, cp23_1, cp23_2, fp23_0, fp23_1, fp23_2⟩ := box3 Xp_23.out; have lp23 := heap_lt Xp_23.out
            obtain ⟨cr23_0, cr23_1, cr23_2, fr23_0, fr23_1, fr23_2⟩ := box3 Xr_23.out; have lr23 := heap_lt Xr_23.out
            obtain ⟨co23_0, co23_1, co23_2, fo23_0, fo23_1, fo23_2⟩ := box3 Xo_23.out; have lo23 := heap_lt Xo_23.out
            obtain ⟨clit23_0, clit23_1, clit23_2, clit23_3, flit23_0, flit23_1, flit23_2, flit23_3⟩ := box4 Xlit_23.out; have llit23 := heap_lt Xlit_23.out
            obtain ⟨cf023_0, cf023_1, ff023_0, ff023_1⟩ := box2P Xf0_23.out; have lf023 := heap_lt Xf0_23.out
            have S23 : w.heap.size ≤ w23.heap.size := (by omega)
            rw [← HW23.out]
            clear cp22_0 cp22_1 cp22_2 fp22_0 fp22_1 fp22_2 cr22_0 cr22_1 cr22_2 fr22_0 fr22_1 fr22_2 co22_0 co22_1 co22_2 fo22_0 fo22_1 fo22_2 clit22_0 clit22_1 clit22_2 clit22_3 flit22_0 flit22_1 flit22_2 flit22_3
            rw [rounds_succ]
            have HE : Hid (ParEnd text none) := Lib.hid (by have h9 := HPE.out; rw [resP_len1 (by rw [HA.out]; decide) (by rw [List.length_drop]; omega)] at h9; exact h9)
            have nr_r0 : w.heap.size ≠ w23.heap.size := by omega
            go_wp2_with (fail)
            refine bodyPost_ret (v := .tuple #[.agg #[.int .i64 0, .int .i64 0, .int .i64 0], .bool false]) (by simp [results, Tryd.results6, go_sem, cr23_0, cr23_1, cr23_2, lr23]) rfl ⟨none, rfl, HE.out, (Below.alloc (below_setAt (below_setAt (below_setAt B23.out (w.heap.size) 0 (by first | omega | (simp only [szA, szS, szD, World.heap_drewN] at * <;> omega)) (.int .i64 0)) (w.heap.size) 1 (by first | omega | (simp only [szA, szS, szD, World.heap_drewN] at * <;> omega)) (.int .i64 0)) (w.heap.size) 2 (by first | omega | (simp only [szA, szS, szD, World.heap_drewN] at * <;> omega)) (.int .i64 0)) (by first | omega | (simp only [szA, szS, szD, World.heap_drewN] at * <;> omega)) _)⟩
          · obtain ⟨m1, hm1⟩ : ∃ m, ws.length - 1 = m := ⟨_, rfl⟩
            have hm1' : 1 ≤ m1 := by omega
            have hm1n : m1 ≤ 2000000 := by omega
            obtain ⟨p1, hp1⟩ := get_ex (show 1 < ws.length by omega)
            have HP1 := Lib.hid (show (ws.drop 1)[0]? = some p1 by rw [List.getElem?_drop]; exact hp1)
            have HDL := Lib.hid (show (ws.drop 1).length = m1 by rw [List.length_drop]; exact hm1)
            have HQ1 := Lib.hid hp1; clear hp1
            have k1 : (1 : Int) ≤ (ws.length : Int) := by omega
            have k2 : 1 ≤ ws.length := by omega
            have k3 : (ws.length : Int) ≤ (ws.length : Int) := by omega
            have s1 : ((m1 : Int) == 0) = false := beq_eq_false_iff_ne.2 (by omega)
            have s2 : (m1 == 0) = false := beq_eq_false_iff_ne.2 (by omega)
            have s3 : 0 < m1 := by omega
            have s4 : (0 : Int) < (m1 : Int) := by omega
            go_wp2_with (fail)
            refine wp_loop_rounds 3 ?_
            obtain ⟨w22, hw⟩ : ∃ x : World, x = ((w21.alloc (.cells #[.int .i64 (k : Int), .int .i64 0, .int .i64 0] 23)).alloc (.cells #[.bool false, .pointer (some ⟨w21.heap.size, 1, none⟩), .bool true, .pointer (some ⟨w21.heap.size, 2, none⟩)] 50)) := ⟨_, rfl⟩
            have B22 := Lib.hid (show Below w.heap.size w w22 by rw [hw]; exact (Below.alloc (Below.alloc B21.out (by first | omega | (simp only [szA, szS, szD, World.heap_drewN] at * <;> omega)) _) (by first | omega | (simp only [szA, szS, szD, World.heap_drewN] at * <;> omega)) _))
            have N22 : w21.heap.size + 2 ≤ w22.heap.size := (by rw [hw]; simp only [szS, szA]; omega)
            have Oz_22 := Lib.hid (show Own w.heap.size 9 1 encZ w22 (.slice (some ⟨zb, 0, none⟩) ws.length ws.length) ws by rw [hw]; exact ((Oz_21.out.alloc _).alloc _))
            have Xp_22 := Lib.hid (show w22.heap[w20.heap.size]? = some (.cells #[.string s, .bool false, .bool true] 48 (0, 0)) by rw [hw]; exact (heap_up (heap_up Xp_21.out)))
            have Xr_22 := Lib.hid (show w22.heap[w.heap.size]? = some (.cells #[.int .i64 0, .int .i64 0, .int .i64 0] 23 (0, 0)) by rw [hw]; exact (heap_up (heap_up Xr_21.out)))
            have Xo_22 := Lib.hid (show w22.heap[w21.heap.size]? = some (.cells #[.int .i64 (k : Int), .int .i64 0, .int .i64 0] 23 (0, 0)) by rw [hw]; exact (heap_up (heap_at' (n := w21.heap.size) (by first | omega | (simp only [szA, szS, szD, World.heap_drewN] at * <;> omega)))))
            have Xlit_22 := Lib.hid (show w22.heap[w21.heap.size + 1]? = some (.cells #[.bool false, .pointer (some ⟨w21.heap.size, 1, none⟩), .bool true, .pointer (some ⟨w21.heap.size, 2, none⟩)] 50 (0, 0)) by rw [hw]; exact (heap_at' (n := w21.heap.size + 1) (by first | omega | (simp only [szA, szS, szD, World.heap_drewN] at * <;> omega))))
            have Q22 := Lib.hid (show w22.heap.size = w21.heap.size + 2 by rw [hw]; simp only [szS, szA])
            have HW22 := Lib.hid hw; clear hw
            obtain ⟨cp22_0, cp22_1, cp22_2, fp22_0, fp22_1, fp22_2⟩ := box3 Xp_22.out; have lp22 := heap_lt Xp_22.out
            obtain ⟨cr22_0, cr22_1, cr22_2, fr22_0, fr22_1, fr22_2⟩ := box3 Xr_22.out; have lr22 := heap_lt Xr_22.out
            obtain ⟨co22_0, co22_1, co22_2, fo22_0, fo22_1, fo22_2⟩ := box3 Xo_22.out; have lo22 := heap_lt Xo_22.out
            obtain ⟨clit22_0, clit22_1, clit22_2, clit22_3, flit22_0, flit22_1, flit22_2, flit22_3⟩ := box4 Xlit_22.out; have llit22 := heap_lt Xlit_22.out
            have S22 : w.heap.size ≤ w22.heap.size := (by omega)
            rw [← HW22.out]
            rw [rounds_succ]
            go_wp2_with (fail)
            obtain ⟨w23, hw⟩ : ∃ x : World, x = (w22.alloc (.cells #[.bool false, .pointer (some ⟨w21.heap.size, 1, none⟩)] 50)) := ⟨_, rfl⟩
            have B23 := Lib.hid (show Below w.heap.size w w23 by rw [hw]; exact (Below.alloc B22.out (by first | omega | (simp only [szA, szS, szD, World.heap_drewN] at * <;> omega)) _))
            have N23 : w22.heap.size + 1 ≤ w23.heap.size := (by rw [hw]; simp only [szS, szA]; omega)
            have Oz_23 := Lib.hid (show Own w.heap.size 9 1 encZ w23 (.slice (some ⟨zb, 0, none⟩) ws.length ws.length) ws by rw [hw]; exact (Oz_22.out.alloc _))
            have Xp_23 := Lib.hid (show w23.heap[w20.heap.size]? = some (.cells #[.string s, .bool false, .bool true] 48 (0, 0)) by rw [hw]; exact (heap_up Xp_22.out))
            have Xr_23 := Lib.hid (show w23.heap[w.heap.size]? = some (.cells #[.int .i64 0, .int .i64 0, .int .i64 0] 23 (0, 0)) by rw [hw]; exact (heap_up Xr_22.out))
            have Xo_23 := Lib.hid (show w23.heap[w21.heap.size]? = some (.cells #[.int .i64 (k : Int), .int .i64 0, .int .i64 0] 23 (0, 0)) by rw [hw]; exact (heap_up Xo_22.out))
            have Xlit_23 := Lib.hid (show w23.heap[w21.heap.size + 1]? = some (.cells #[.bool false, .pointer (some ⟨w21.heap.size, 1, none⟩), .bool true, .pointer (some ⟨w21.heap.size, 2, none⟩)] 50 (0, 0)) by rw [hw]; exact (heap_up Xlit_22.out))
            have Xf0_23 := Lib.hid (show w23.heap[w22.heap.size]? = some (.cells #[.bool false, .pointer (some ⟨w21.heap.size, 1, none⟩)] 50 (0, 0)) by rw [hw]; exact (heap_at' (n := w22.heap.size) (by first | omega | (simp only [szA, szS, szD, World.heap_drewN] at * <;> omega))))
            have Q23 := Lib.hid (show w23.heap.size = w22.heap.size + 1 by rw [hw]; simp only [szS, szA])
            have HW23 := Lib.hid hw; clear hw
            obtain ⟨cp23_0, cp23_1, cp23_2, fp23_0, fp23_1, fp23_2⟩ := box3 Xp_23.out; have lp23 := heap_lt Xp_23.out
            obtain ⟨cr23_0, cr23_1, cr23_2, fr23_0, fr23_1, fr23_2⟩ := box3 Xr_23.out; have lr23 := heap_lt Xr_23.out
            obtain ⟨co23_0, co23_1, co23_2, fo23_0, fo23_1, fo23_2⟩ := box3 Xo_23.out; have lo23 := heap_lt Xo_23.out
            obtain ⟨clit23_0, clit23_1, clit23_2, clit23_3, flit23_0, flit23_1, flit23_2, flit23_3⟩ := box4 Xlit_23.out; have llit23 := heap_lt Xlit_23.out
            obtain ⟨cf023_0, cf023_1, ff023_0, ff023_1⟩ := box2P Xf0_23.out; have lf023 := heap_lt Xf0_23.out
            have S23 : w.heap.size ≤ w23.heap.size := (by omega)
            rw [← HW23.out]
            clear cp22_0 cp22_1 cp22_2 fp22_0 fp22_1 fp22_2 cr22_0 cr22_1 cr22_2 fr22_0 fr22_1 fr22_2 co22_0 co22_1 co22_2 fo22_0 fo22_1 fo22_2 clit22_0 clit22_1 clit22_2 clit22_3 flit22_0 flit22_1 flit22_2 flit22_3
            obtain ⟨cz1, hz1⟩ := zrow_cell (Oz_23.out.row encZ_len) HQ1.out
            rw [rounds_succ]
            rcases hn1 : numB p1 with _ | n1
            · have HN1 := Lib.hid hn1; clear hn1
              go_wp2_with (fail)
              refine (parseNumber_calls p1 _ (HL.out.below (Below.alloc B23.out (by first | omega | (simp only [szA, szS, szD, World.heap_drewN] at * <;> omega)) _))).mono ?_
              rw [HN1.out]
              rintro e w24 ⟨rfl, hb⟩
              have B24 := Lib.hid (Below.trans (Below.alloc B23.out (by first | omega | (simp only [szA, szS, szD, World.heap_drewN] at * <;> omega)) _) (hb.mono (by first | omega | (simp only [szA, szS, szD, World.heap_drewN] at * <;> omega))) : Below w.heap.size w w24)
              have Z24 := hb.size
              have N24 : w23.heap.size + 1 ≤ w24.heap.size := (by first | with_reducible exact Z24 | (simp only [szA, szS, szD] at Z24; omega))
              clear Z24
              have Xp_24 := Lib.hid (below_at hb (heap_up Xp_23.out))
              have Xr_24 := Lib.hid (below_at hb (heap_up Xr_23.out))
              have Xo_24 := Lib.hid (below_at hb (heap_up Xo_23.out))
              have Xlit_24 := Lib.hid (below_at hb (heap_up Xlit_23.out))
              have Xf0_24 := Lib.hid (below_at hb (heap_up Xf0_23.out))
              have Xf1_24 : Hid (w24.heap[w23.heap.size]? = some (.cells #[.bool true, .pointer (some ⟨w21.heap.size, 2, none⟩)] 50 (0, 0))) := below_at hb (heap_at' (n := w23.heap.size) (by first | omega | (simp only [szA, szS, szD, World.heap_drewN] at * <;> omega)))
              have Oz_24 := Lib.hid ((Oz_23.out.alloc _).kept hb)
              clear hb
              obtain ⟨cp24_0, cp24_1, cp24_2, fp24_0, fp24_1, fp24_2⟩ := box3 Xp_24.out; have lp24 := heap_lt Xp_24.out
              obtain ⟨cr24_0, cr24_1, cr24_2, fr24_0, fr24_1, fr24_2⟩ := box3 Xr_24.out; have lr24 := heap_lt Xr_24.out
              obtain ⟨co24_0, co24_1, co24_2, fo24_0, fo24_1, fo24_2⟩ := box3 Xo_24.out; have lo24 := heap_lt Xo_24.out
              obtain ⟨clit24_0, clit24_1, clit24_2, clit24_3, flit24_0, flit24_1, flit24_2, flit24_3⟩ := box4 Xlit_24.out; have llit24 := heap_lt Xlit_24.out
              obtain ⟨cf024_0, cf024_1, ff024_0, ff024_1⟩ := box2P Xf0_24.out; have lf024 := heap_lt Xf0_24.out
              obtain ⟨cf124_0, cf124_1, ff124_0, ff124_1⟩ := box2P Xf1_24.out; have lf124 := heap_lt Xf1_24.out
              have S24 : w.heap.size ≤ w24.heap.size := (by omega)
              clear cp23_0 cp23_1 cp23_2 fp23_0 fp23_1 fp23_2 cr23_0 cr23_1 cr23_2 fr23_0 fr23_1 fr23_2 co23_0 co23_1 co23_2 fo23_0 fo23_1 fo23_2 clit23_0 clit23_1 clit23_2 clit23_3 flit23_0 flit23_1 flit23_2 flit23_3 cf023_0 cf023_1 ff023_0 ff023_1
              have HE : Hid (ParEnd text none) := Lib.hid (by have h9 := HPE.out; rw [resP_bad HP1.out HN1.out] at h9; exact h9)
              go_wp2_with (fail)
              refine bodyPost_ret (v := .tuple #[.agg #[.int .i64 0, .int .i64 0, .int .i64 0], .bool false]) (by simp [results, Tryd.results6, go_sem, cr24_0, cr24_1, cr24_2, lr24]) rfl ⟨none, rfl, HE.out, (below_setAt (below_setAt (below_setAt B24.out (w.heap.size) 0 (by first | omega | (simp only [szA, szS, szD, World.heap_drewN] at * <;> omega)) (.int .i64 0)) (w.heap.size) 1 (by first | omega | (simp only [szA, szS, szD, World.heap_drewN] at * <;> omega)) (.int .i64 0)) (w.heap.size) 2 (by first | omega | (simp only [szA, szS, szD, World.heap_drewN] at * <;> omega)) (.int .i64 0))⟩
            · have HN1 := Lib.hid hn1; clear hn1
              go_wp2_with (fail)
              refine (parseNumber_calls p1 _ (HL.out.below (Below.alloc B23.out (by first | omega | (simp only [szA, szS, szD, World.heap_drewN] at * <;> omega)) _))).mono ?_
              rw [HN1.out]
              rintro e w24 ⟨rfl, hb⟩
              have B24 := Lib.hid (Below.trans (Below.alloc B23.out (by first | omega | (simp only [szA, szS, szD, World.heap_drewN] at * <;> omega)) _) (hb.mono (by first | omega | (simp only [szA, szS, szD, World.heap_drewN] at * <;> omega))) : Below w.heap.size w w24)
              have Z24 := hb.size
              have N24 : w23.heap.size + 1 ≤ w24.heap.size := (by first | with_reducible exact Z24 | (simp only [szA, szS, szD] at Z24; omega))
              clear Z24
              have Xp_24 := Lib.hid (below_at hb (heap_up Xp_23.out))
              have Xr_24 := Lib.hid (below_at hb (heap_up Xr_23.out))
              have Xo_24 := Lib.hid (below_at hb (heap_up Xo_23.out))
              have Xlit_24 := Lib.hid (below_at hb (heap_up Xlit_23.out))
              have Xf0_24 := Lib.hid (below_at hb (heap_up Xf0_23.out))
              have Xf1_24 : Hid (w24.heap[w23.heap.size]? = some (.cells #[.bool true, .pointer (some ⟨w21.heap.size, 2, none⟩)] 50 (0, 0))) := below_at hb (heap_at' (n := w23.heap.size) (by first | omega | (simp only [szA, szS, szD, World.heap_drewN] at * <;> omega)))
              have Oz_24 := Lib.hid ((Oz_23.out.alloc _).kept hb)
              clear hb
              obtain ⟨cp24_0, cp24_1, cp24_2, fp24_0, fp24_1, fp24_2⟩ := box3 Xp_24.out; have lp24 := heap_lt Xp_24.out
              obtain ⟨cr24_0, cr24_1, cr24_2, fr24_0, fr24_1, fr24_2⟩ := box3 Xr_24.out; have lr24 := heap_lt Xr_24.out
              obtain ⟨co24_0, co24_1, co24_2, fo24_0, fo24_1, fo24_2⟩ := box3 Xo_24.out; have lo24 := heap_lt Xo_24.out
              obtain ⟨clit24_0, clit24_1, clit24_2, clit24_3, flit24_0, flit24_1, flit24_2, flit24_3⟩ := box4 Xlit_24.out; have llit24 := heap_lt Xlit_24.out
              obtain ⟨cf024_0, cf024_1, ff024_0, ff024_1⟩ := box2P Xf0_24.out; have lf024 := heap_lt Xf0_24.out
              obtain ⟨cf124_0, cf124_1, ff124_0, ff124_1⟩ := box2P Xf1_24.out; have lf124 := heap_lt Xf1_24.out
              have S24 : w.heap.size ≤ w24.heap.size := (by omega)
              clear cp23_0 cp23_1 cp23_2 fp23_0 fp23_1 fp23_2 cr23_0 cr23_1 cr23_2 fr23_0 fr23_1 fr23_2 co23_0 co23_1 co23_2 fo23_0 fo23_1 fo23_2 clit23_0 clit23_1 clit23_2 clit23_3 flit23_0 flit23_1 flit23_2 flit23_3 cf023_0 cf023_1 ff023_0 ff023_1
              have nof1 : w23.heap.size ≠ w21.heap.size := by omega
              have nog1 := nof1.symm
              have k4 : (1 : Int) ≤ (m1 : Int) := by omega
              have k5 : (m1 : Int) ≤ (m1 : Int) := by omega
              by_cases h1 : m1 = 1
              · subst h1
                go_wp2_with (fail)
                obtain ⟨w25, hw⟩ : ∃ x : World, x = (w24.setCell ⟨w21.heap.size, 2, none⟩ (.int .i64 n1)) := ⟨_, rfl⟩
                have B25 := Lib.hid (show Below w.heap.size w w25 by rw [hw]; exact (below_setAt B24.out (w21.heap.size) 2 (by first | omega | (simp only [szA, szS, szD, World.heap_drewN] at * <;> omega)) (.int .i64 n1)))
                have N25 : w24.heap.size ≤ w25.heap.size := (by rw [hw]; simp only [szS, szA]; omega)
                have Oz_25 := Lib.hid (show Own w.heap.size 9 1 encZ w25 (.slice (some ⟨zb, 0, none⟩) ws.length ws.length) ws by rw [hw]; exact (Oz_24.out.setB (w21.heap.size) 2 Xo_24.out (by decide) (.int .i64 n1)))
                have Xp_25 := Lib.hid (show w25.heap[w20.heap.size]? = some (.cells #[.string s, .bool false, .bool true] 48 (0, 0)) by rw [hw]; exact (set_off (a := ⟨w21.heap.size, 2, none⟩) Xp_24.out (by first | omega | (simp only [szA, szS, szD, World.heap_drewN] at * <;> omega)) (.int .i64 n1)))
                have Xr_25 := Lib.hid (show w25.heap[w.heap.size]? = some (.cells #[.int .i64 0, .int .i64 0, .int .i64 0] 23 (0, 0)) by rw [hw]; exact (set_off (a := ⟨w21.heap.size, 2, none⟩) Xr_24.out (by first | omega | (simp only [szA, szS, szD, World.heap_drewN] at * <;> omega)) (.int .i64 n1)))
                have Xo_25 := Lib.hid (show w25.heap[w21.heap.size]? = some (.cells #[.int .i64 (k : Int), .int .i64 0, .int .i64 n1] 23 (0, 0)) by rw [hw]; exact (set_at (a := ⟨w21.heap.size, 2, none⟩) Xo_24.out rfl rfl (.int .i64 n1)))
                have Xlit_25 := Lib.hid (show w25.heap[w21.heap.size + 1]? = some (.cells #[.bool false, .pointer (some ⟨w21.heap.size, 1, none⟩), .bool true, .pointer (some ⟨w21.heap.size, 2, none⟩)] 50 (0, 0)) by rw [hw]; exact (set_off (a := ⟨w21.heap.size, 2, none⟩) Xlit_24.out (by first | omega | (simp only [szA, szS, szD, World.heap_drewN] at * <;> omega)) (.int .i64 n1)))
                have Xf0_25 := Lib.hid (show w25.heap[w22.heap.size]? = some (.cells #[.bool false, .pointer (some ⟨w21.heap.size, 1, none⟩)] 50 (0, 0)) by rw [hw]; exact (set_off (a := ⟨w21.heap.size, 2, none⟩) Xf0_24.out (by first | omega | (simp only [szA, szS, szD, World.heap_drewN] at * <;> omega)) (.int .i64 n1)))
                have Xf1_25 := Lib.hid (show w25.heap[w23.heap.size]? = some (.cells #[.bool true, .pointer (some ⟨w21.heap.size, 2, none⟩)] 50 (0, 0)) by rw [hw]; exact (set_off (a := ⟨w21.heap.size, 2, none⟩) Xf1_24.out (by first | omega | (simp only [szA, szS, szD, World.heap_drewN] at * <;> omega)) (.int .i64 n1)))
                have Q25 := Lib.hid (show w25.heap.size = w24.heap.size by rw [hw]; simp only [szS, szA])
                have HW25 := Lib.hid hw; clear hw
                obtain ⟨cp25_0, cp25_1, cp25_2, fp25_0, fp25_1, fp25_2⟩ := box3 Xp_25.out; have lp25 := heap_lt Xp_25.out
                obtain ⟨cr25_0, cr25_1, cr25_2, fr25_0, fr25_1, fr25_2⟩ := box3 Xr_25.out; have lr25 := heap_lt Xr_25.out
                obtain ⟨co25_0, co25_1, co25_2, fo25_0, fo25_1, fo25_2⟩ := box3 Xo_25.out; have lo25 := heap_lt Xo_25.out
                obtain ⟨clit25_0, clit25_1, clit25_2, clit25_3, flit25_0, flit25_1, flit25_2, flit25_3⟩ := box4 Xlit_25.out; have llit25 := heap_lt Xlit_25.out
                obtain ⟨cf025_0, cf025_1, ff025_0, ff025_1⟩ := box2P Xf0_25.out; have lf025 := heap_lt Xf0_25.out
                obtain ⟨cf125_0, cf125_1, ff125_0, ff125_1⟩ := box2P Xf1_25.out; have lf125 := heap_lt Xf1_25.out
                have S25 : w.heap.size ≤ w25.heap.size := (by omega)
                rw [← HW25.out]
                clear cp24_0 cp24_1 cp24_2 fp24_0 fp24_1 fp24_2 cr24_0 cr24_1 cr24_2 fr24_0 fr24_1 fr24_2 co24_0 co24_1 co24_2 fo24_0 fo24_1 fo24_2 clit24_0 clit24_1 clit24_2 clit24_3 flit24_0 flit24_1 flit24_2 flit24_3 cf024_0 cf024_1 ff024_0 ff024_1 cf124_0 cf124_1 ff124_0 ff124_1
                rw [rounds_succ]
                have HE : Hid (ParEnd text (some ((k : Int), 0, n1))) := Lib.hid (by have h9 := HPE.out; rw [resP_0 HA.out HDL.out HP1.out HN1.out] at h9; exact h9)
                have ne_r_o : w.heap.size ≠ w21.heap.size := by omega
                have nf_r_o := ne_r_o.symm
                go_wp2_with (fail)
                refine bodyPost_ret (v := .tuple #[.agg #[.int .i64 (k : Int), .int .i64 0, .int .i64 n1], .bool true]) (by simp [results, Tryd.results6, go_sem, cr25_0, cr25_1, cr25_2, lr25, co25_0, co25_1, co25_2, lo25, ne_r_o, nf_r_o]) rfl ⟨some ((k : Int), 0, n1), rfl, HE.out, (below_setAt (below_setAt (below_setAt B25.out (w.heap.size) 0 (by first | omega | (simp only [szA, szS, szD, World.heap_drewN] at * <;> omega)) (.int .i64 (k : Int))) (w.heap.size) 1 (by first | omega | (simp only [szA, szS, szD, World.heap_drewN] at * <;> omega)) (.int .i64 0)) (w.heap.size) 2 (by first | omega | (simp only [szA, szS, szD, World.heap_drewN] at * <;> omega)) (.int .i64 n1))⟩
              · obtain ⟨m2, hm2⟩ : ∃ m, m1 - 1 = m := ⟨_, rfl⟩
                have hm2' : 1 ≤ m2 := by omega
                have t1 : decide (0 < (m2 : Int)) = true := decide_eq_true (by omega)
                have t2 : 0 < m2 := by omega
                have t3 : (0 : Int) < (m2 : Int) := by omega
                have t4 : ((m2 : Int) == 0) = false := beq_eq_false_iff_ne.2 (by omega)
                have t5 : (m2 == 0) = false := beq_eq_false_iff_ne.2 (by omega)
                have t6 : (1 : Int) ≤ (m2 : Int) := by omega
                have t7 : (m2 : Int) ≤ (m2 : Int) := by omega
                go_wp2_with (fail)
                obtain ⟨w25, hw⟩ : ∃ x : World, x = (w24.setCell ⟨w21.heap.size, 2, none⟩ (.int .i64 n1)) := ⟨_, rfl⟩
                have B25 := Lib.hid (show Below w.heap.size w w25 by rw [hw]; exact (below_setAt B24.out (w21.heap.size) 2 (by first | omega | (simp only [szA, szS, szD, World.heap_drewN] at * <;> omega)) (.int .i64 n1)))
                have N25 : w24.heap.size ≤ w25.heap.size := (by rw [hw]; simp only [szS, szA]; omega)
                have Oz_25 := Lib.hid (show Own w.heap.size 9 1 encZ w25 (.slice (some ⟨zb, 0, none⟩) ws.length ws.length) ws by rw [hw]; exact (Oz_24.out.setB (w21.heap.size) 2 Xo_24.out (by decide) (.int .i64 n1)))
                have Xp_25 := Lib.hid (show w25.heap[w20.heap.size]? = some (.cells #[.string s, .bool false, .bool true] 48 (0, 0)) by rw [hw]; exact (set_off (a := ⟨w21.heap.size, 2, none⟩) Xp_24.out (by first | omega | (simp only [szA, szS, szD, World.heap_drewN] at * <;> omega)) (.int .i64 n1)))
                have Xr_25 := Lib.hid (show w25.heap[w.heap.size]? = some (.cells #[.int .i64 0, .int .i64 0, .int .i64 0] 23 (0, 0)) by rw [hw]; exact (set_off (a := ⟨w21.heap.size, 2, none⟩) Xr_24.out (by first | omega | (simp only [szA, szS, szD, World.heap_drewN] at * <;> omega)) (.int .i64 n1)))
                have Xo_25 := Lib.hid (show w25.heap[w21.heap.size]? = some (.cells #[.int .i64 (k : Int), .int .i64 0, .int .i64 n1] 23 (0, 0)) by rw [hw]; exact (set_at (a := ⟨w21.heap.size, 2, none⟩) Xo_24.out rfl rfl (.int .i64 n1)))
                have Xlit_25 := Lib.hid (show w25.heap[w21.heap.size + 1]? = some (.cells #[.bool false, .pointer (some ⟨w21.heap.size, 1, none⟩), .bool true, .pointer (some ⟨w21.heap.size, 2, none⟩)] 50 (0, 0)) by rw [hw]; exact (set_off (a := ⟨w21.heap.size, 2, none⟩) Xlit_24.out (by first | omega | (simp only [szA, szS, szD, World.heap_drewN] at * <;> omega)) (.int .i64 n1)))
                have Xf0_25 := Lib.hid (show w25.heap[w22.heap.size]? = some (.cells #[.bool false, .pointer (some ⟨w21.heap.size, 1, none⟩)] 50 (0, 0)) by rw [hw]; exact (set_off (a := ⟨w21.heap.size, 2, none⟩) Xf0_24.out (by first | omega | (simp only [szA, szS, szD, World.heap_drewN] at * <;> omega)) (.int .i64 n1)))
                have Xf1_25 := Lib.hid (show w25.heap[w23.heap.size]? = some (.cells #[.bool true, .pointer (some ⟨w21.heap.size, 2, none⟩)] 50 (0, 0)) by rw [hw]; exact (set_off (a := ⟨w21.heap.size, 2, none⟩) Xf1_24.out (by first | omega | (simp only [szA, szS, szD, World.heap_drewN] at * <;> omega)) (.int .i64 n1)))
                have Q25 := Lib.hid (show w25.heap.size = w24.heap.size by rw [hw]; simp only [szS, szA])
                have HW25 := Lib.hid hw; clear hw
                obtain ⟨cp25_0, cp25_1, cp25_2, fp25_0, fp25_1, fp25_2⟩ := box3 Xp_25.out; have lp25 := heap_lt Xp_25.out
                obtain ⟨cr25_0, cr25_1, cr25_2, fr25_0, fr25_1, fr25_2⟩ := box3 Xr_25.out; have lr25 := heap_lt Xr_25.out
                obtain ⟨co25_0, co25_1, co25_2, fo25_0, fo25_1, fo25_2⟩ := box3 Xo_25.out; have lo25 := heap_lt Xo_25.out
                obtain ⟨clit25_0, clit25_1, clit25_2, clit25_3, flit25_0, flit25_1, flit25_2, flit25_3⟩ := box4 Xlit_25.out; have llit25 := heap_lt Xlit_25.out
                obtain ⟨cf025_0, cf025_1, ff025_0, ff025_1⟩ := box2P Xf0_25.out; have lf025 := heap_lt Xf0_25.out
                obtain ⟨cf125_0, cf125_1, ff125_0, ff125_1⟩ := box2P Xf1_25.out; have lf125 := heap_lt Xf1_25.out
                have S25 : w.heap.size ≤ w25.heap.size := (by omega)
                rw [← HW25.out]
                clear cp24_0 cp24_1 cp24_2 fp24_0 fp24_1 fp24_2 cr24_0 cr24_1 cr24_2 fr24_0 fr24_1 fr24_2 co24_0 co24_1 co24_2 fo24_0 fo24_1 fo24_2 clit24_0 clit24_1 clit24_2 clit24_3 flit24_0 flit24_1 flit24_2 flit24_3 cf024_0 cf024_1 ff024_0 ff024_1 cf124_0 cf124_1 ff124_0 ff124_1
                rw [rounds_succ]
                have HE : Hid (ParEnd text none) := Lib.hid (by have h9 := HPE.out; rw [resP_len1 (by rw [HA.out]; decide) (by rw [HDL.out]; omega)] at h9; exact h9)
                go_wp2_with (fail)
                refine bodyPost_ret (v := .tuple #[.agg #[.int .i64 0, .int .i64 0, .int .i64 0], .bool false]) (by simp [results, Tryd.results6, go_sem, cr25_0, cr25_1, cr25_2, lr25]) rfl ⟨none, rfl, HE.out, (below_setAt (below_setAt (below_setAt B25.out (w.heap.size) 0 (by first | omega | (simp only [szA, szS, szD, World.heap_drewN] at * <;> omega)) (.int .i64 0)) (w.heap.size) 1 (by first | omega | (simp only [szA, szS, szD, World.heap_drewN] at * <;> omega)) (.int .i64 0)) (w.heap.size) 2 (by first | omega | (simp only [szA, szS, szD, World.heap_drewN] at * <;> omega)) (.int .i64 0))⟩
        · have HA := Lib.hid ha; clear ha
          obtain rfl : bo = true := by rw [HBO.out, HA.out]; rfl
          obtain rfl : br = false := by rw [HBR.out, HA.out]; rfl
          by_cases hl1 : ws.length = 1
          · have s1 : ((0 : Int) == 0) = true := rfl
            go_wp2_with (fail)
            refine wp_loop_rounds 3 ?_
            obtain ⟨w22, hw⟩ : ∃ x : World, x = ((w21.alloc (.cells #[.int .i64 (k : Int), .int .i64 0, .int .i64 0] 23)).alloc (.cells #[.bool true, .pointer (some ⟨w21.heap.size, 1, none⟩), .bool false, .pointer (some ⟨w21.heap.size, 2, none⟩)] 50)) := ⟨_, rfl⟩
            have B22 := Lib.hid (show Below w.heap.size w w22 by rw [hw]; exact (Below.alloc (Below.alloc B21.out (by first | omega | (simp only [szA, szS, szD, World.heap_drewN] at * <;> omega)) _) (by first | omega | (simp only [szA, szS, szD, World.heap_drewN] at * <;> omega)) _))
            have N22 : w21.heap.size + 2 ≤ w22.heap.size := (by rw [hw]; simp only [szS, szA]; omega)
            have Oz_22 := Lib.hid (show Own w.heap.size 9 1 encZ w22 (.slice (some ⟨zb, 0, none⟩) ws.length ws.length) ws by rw [hw]; exact ((Oz_21.out.alloc _).alloc _))
            have Xp_22 := Lib.hid (show w22.heap[w20.heap.size]? = some (.cells #[.string s, .bool true, .bool false] 48 (0, 0)) by rw [hw]; exact (heap_up (heap_up Xp_21.out)))
            have Xr_22 := Lib.hid (show w22.heap[w.heap.size]? = some (.cells #[.int .i64 0, .int .i64 0, .int .i64 0] 23 (0, 0)) by rw [hw]; exact (heap_up (heap_up Xr_21.out)))
            have Xo_22 := Lib.hid (show w22.heap[w21.heap.size]? = some (.cells #[.int .i64 (k : Int), .int .i64 0, .int .i64 0] 23 (0, 0)) by rw [hw]; exact (heap_up (heap_at' (n := w21.heap.size) (by first | omega | (simp only [szA, szS, szD, World.heap_drewN] at * <;> omega)))))
            have Xlit_22 := Lib.hid (show w22.heap[w21.heap.size + 1]? = some (.cells #[.bool true, .pointer (some ⟨w21.heap.size, 1, none⟩), .bool false, .pointer (some ⟨w21.heap.size, 2, none⟩)] 50 (0, 0)) by rw [hw]; exact (heap_at' (n := w21.heap.size + 1) (by first | omega | (simp only [szA, szS, szD, World.heap_drewN] at * <;> omega))))
            have Q22 := Lib.hid (show w22.heap.size = w21.heap.size + 2 by rw [hw]; simp only [szS, szA])
            have HW22 := Lib.hid hw; clear hw
            obtain ⟨cp22_0, cp22_1, cp22_2, fp22_0, fp22_1, fp22_2⟩ := box3 Xp_22.out; have lp22 := heap_lt Xp_22.out
            obtain ⟨cr22_0, cr22_1, cr22_2, fr22_0, fr22_1, fr22_2⟩ := box3 Xr_22.out; have lr22 := heap_lt Xr_22.out
            obtain ⟨co22_0, co22_1, co22_2, fo22_0, fo22_1, fo22_2⟩ := box3 Xo_22.out; have lo22 := heap_lt Xo_22.out
            obtain ⟨clit22_0, clit22_1, clit22_2, clit22_3, flit22_0, flit22_1, flit22_2, flit22_3⟩ := box4 Xlit_22.out; have llit22 := heap_lt Xlit_22.out
            have S22 : w.heap.size ≤ w22.heap.size := (by omega)
            rw [← HW22.out]
            rw [rounds_succ]
            have HE : Hid (ParEnd text none) := Lib.hid (by have h9 := HPE.out; rw [resP_len1 (by rw [HA.out]; decide) (by rw [List.length_drop]; omega)] at h9; exact h9)
            have nr_r0 : w.heap.size ≠ w22.heap.size := by omega
            go_wp2_with (fail)
            refine bodyPost_ret (v := .tuple #[.agg #[.int .i64 0, .int .i64 0, .int .i64 0], .bool false]) (by simp [results, Tryd.results6, go_sem, cr22_0, cr22_1, cr22_2, lr22]) rfl ⟨none, rfl, HE.out, (Below.alloc (below_setAt (below_setAt (below_setAt B22.out (w.heap.size) 0 (by first | omega | (simp only [szA, szS, szD, World.heap_drewN] at * <;> omega)) (.int .i64 0)) (w.heap.size) 1 (by first | omega | (simp only [szA, szS, szD, World.heap_drewN] at * <;> omega)) (.int .i64 0)) (w.heap.size) 2 (by first | omega | (simp only [szA, szS, szD, World.heap_drewN] at * <;> omega)) (.int .i64 0)) (by first | omega | (simp only [szA, szS, szD, World.heap_drewN] at * <;> omega)) _)⟩
          · obtain ⟨m1, hm1⟩ : ∃ m, ws.length - 1 = m := ⟨_, rfl⟩
            have hm1' : 1 ≤ m1 := by omega
            have hm1n : m1 ≤ 2000000 := by omega
            obtain ⟨p1, hp1⟩ := get_ex (show 1 < ws.length by omega)
            have HP1 := Lib.hid (show (ws.drop 1)[0]? = some p1 by rw [List.getElem?_drop]; exact hp1)
            have HDL := Lib.hid (show (ws.drop 1).length = m1 by rw [List.length_drop]; exact hm1)
            have HQ1 := Lib.hid hp1; clear hp1
            have k1 : (1 : Int) ≤ (ws.length : Int) := by omega
            have k2 : 1 ≤ ws.length := by omega
            have k3 : (ws.length : Int) ≤ (ws.length : Int) := by omega
            have s1 : ((m1 : Int) == 0) = false := beq_eq_false_iff_ne.2 (by omega)
            have s2 : (m1 == 0) = false := beq_eq_false_iff_ne.2 (by omega)
            have s3 : 0 < m1 := by omega
            have s4 : (0 : Int) < (m1 : Int) := by omega
            go_wp2_with (fail)
            refine wp_loop_rounds 3 ?_
            obtain ⟨w22, hw⟩ : ∃ x : World, x = ((w21.alloc (.cells #[.int .i64 (k : Int), .int .i64 0, .int .i64 0] 23)).alloc (.cells #[.bool true, .pointer (some ⟨w21.heap.size, 1, none⟩), .bool false, .pointer (some ⟨w21.heap.size, 2, none⟩)] 50)) := ⟨_, rfl⟩
            have B22 := Lib.hid (show Below w.heap.size w w22 by rw [hw]; exact (Below.alloc (Below.alloc B21.out (by first | omega | (simp only [szA, szS, szD, World.heap_drewN] at * <;> omega)) _) (by first | omega | (simp only [szA, szS, szD, World.heap_drewN] at * <;> omega)) _))
            have N22 : w21.heap.size + 2 ≤ w22.heap.size := (by rw [hw]; simp only [szS, szA]; omega)
            have Oz_22 := Lib.hid (show Own w.heap.size 9 1 encZ w22 (.slice (some ⟨zb, 0, none⟩) ws.length ws.length) ws by rw [hw]; exact ((Oz_21.out.alloc _).alloc _))
            have Xp_22 := Lib.hid (show w22.heap[w20.heap.size]? = some (.cells #[.string s, .bool true, .bool false] 48 (0, 0)) by rw [hw]; exact (heap_up (heap_up Xp_21.out)))
            have Xr_22 := Lib.hid (show w22.heap[w.heap.size]? = some (.cells #[.int .i64 0, .int .i64 0, .int .i64 0] 23 (0, 0)) by rw [hw]; exact (heap_up (heap_up Xr_21.out)))
            have Xo_22 := Lib.hid (show w22.heap[w21.heap.size]? = some (.cells #[.int .i64 (k : Int), .int .i64 0, .int .i64 0] 23 (0, 0)) by rw [hw]; exact (heap_up (heap_at' (n := w21.heap.size) (by first | omega | (simp only [szA, szS, szD, World.heap_drewN] at * <;> omega)))))
            have Xlit_22 := Lib.hid (show w22.heap[w21.heap.size + 1]? = some (.cells #[.bool true, .pointer (some ⟨w21.heap.size, 1, none⟩), .bool false, .pointer (some ⟨w21.heap.size, 2, none⟩)] 50 (0, 0)) by rw [hw]; exact (heap_at' (n := w21.heap.size + 1) (by first | omega | (simp only [szA, szS, szD, World.heap_drewN] at * <;> omega))))
            have Q22 := Lib.hid (show w22.heap.size = w21.heap.size + 2 by rw [hw]; simp only [szS, szA])
            have HW22 := Lib.hid hw; clear hw
            obtain ⟨cp22_0, cp22_1, cp22_2, fp22_0, fp22_1, fp22_2⟩ := box3 Xp_22.out; have lp22 := heap_lt Xp_22.out
            obtain ⟨cr22_0, cr22_1, cr22_2, fr22_0, fr22_1, fr22_2⟩ := box3 Xr_22.out; have lr22 := heap_lt Xr_22.out
            obtain ⟨co22_0, co22_1, co22_2, fo22_0, fo22_1, fo22_2⟩ := box3 Xo_22.out; have lo22 := heap_lt Xo_22.out
            obtain ⟨clit22_0, clit22_1, clit22_2, clit22_3, flit22_0, flit22_1, flit22_2, flit22_3⟩ := box4 Xlit_22.out; have llit22 := heap_lt Xlit_22.out
            have S22 : w.heap.size ≤ w22.heap.size := (by omega)
            rw [← HW22.out]
            obtain ⟨cz1, hz1⟩ := zrow_cell (Oz_22.out.row encZ_len) HQ1.out
            rw [rounds_succ]
            rcases hn1 : numB p1 with _ | n1
            · have HN1 := Lib.hid hn1; clear hn1
              go_wp2_with (fail)
              refine (parseNumber_calls p1 _ (HL.out.below (Below.alloc B22.out (by first | omega | (simp only [szA, szS, szD, World.heap_drewN] at * <;> omega)) _))).mono ?_
              rw [HN1.out]
              rintro e w23 ⟨rfl, hb⟩
              have B23 := Lib.hid (Below.trans (Below.alloc B22.out (by first | omega | (simp only [szA, szS, szD, World.heap_drewN] at * <;> omega)) _) (hb.mono (by first | omega | (simp only [szA, szS, szD, World.heap_drewN] at * <;> omega))) : Below w.heap.size w w23)
              have Z23 := hb.size
              have N23 : w22.heap.size + 1 ≤ w23.heap.size := (by first | with_reducible exact Z23 | (simp only [szA, szS, szD] at Z23; omega))
              clear Z23
              have Xp_23 := Lib.hid (below_at hb (heap_up Xp_22.out))
              have Xr_23 := Lib.hid (below_at hb (heap_up Xr_22.out))
              have Xo_23 := Lib.hid (below_at hb (heap_up Xo_22.out))
              have Xlit_23 := Lib.hid (below_at hb (heap_up Xlit_22.out))
              have Xf0_23 : Hid (w23.heap[w22.heap.size]? = some (.cells #[.bool true, .pointer (some ⟨w21.heap.size, 1, none⟩)] 50 (0, 0))) := below_at hb (heap_at' (n := w22.heap.size) (by first | omega | (simp only [szA, szS, szD, World.heap_drewN] at * <;> omega)))
              have Oz_23 := Lib.hid ((Oz_22.out.alloc _).kept hb)
              clear hb
              obtain ⟨cp23_0, cp23_1, cp23_2, fp23_0, fp23_1, fp23_2⟩ := box3 Xp_23.out; have lp23 := heap_lt Xp_23.out
              obtain ⟨cr23_0, cr23_1, cr23_2, fr23_0, fr23_1, fr23_2⟩ := box3 Xr_23.out; have lr23 := heap_lt Xr_23.out
              obtain ⟨co23_0, co23_1, co23_2, fo23_0, fo23_1, fo23_2⟩ := box3 Xo_23.out; have lo23 := heap_lt Xo_23.out
              obtain ⟨clit23_0, clit23_1, clit23_2, clit23_3, flit23_0, flit23_1, flit23_2, flit23_3⟩ := box4 Xlit_23.out; have llit23 := heap_lt Xlit_23.out
              obtain ⟨cf023_0, cf023_1, ff023_0, ff023_1⟩ := box2P Xf0_23.out; have lf023 := heap_lt Xf0_23.out
              have S23 : w.heap.size ≤ w23.heap.size := (by omega)
              clear cp22_0 cp22_1 cp22_2 fp22_0 fp22_1 fp22_2 cr22_0 cr22_1 cr22_2 fr22_0 fr22_1 fr22_2 co22_0 co22_1 co22_2 fo22_0 fo22_1 fo22_2 clit22_0 clit22_1 clit22_2 clit22_3 flit22_0 flit22_1 flit22_2 flit22_3
              have HE : Hid (ParEnd text none) := Lib.hid (by have h9 := HPE.out; rw [resP_bad HP1.out HN1.out] at h9; exact h9)
              go_wp2_with (fail)
              refine bodyPost_ret (v := .tuple #[.agg #[.int .i64 0, .int .i64 0, .int .i64 0], .bool false]) (by simp [results, Tryd.results6, go_sem, cr23_0, cr23_1, cr23_2, lr23]) rfl ⟨none, rfl, HE.out, (below_setAt (below_setAt (below_setAt B23.out (w.heap.size) 0 (by first | omega | (simp only [szA, szS, szD, World.heap_drewN] at * <;> omega)) (.int .i64 0)) (w.heap.size) 1 (by first | omega | (simp only [szA, szS, szD, World.heap_drewN] at * <;> omega)) (.int .i64 0)) (w.heap.size) 2 (by first | omega | (simp only [szA, szS, szD, World.heap_drewN] at * <;> omega)) (.int .i64 0))⟩
            · have HN1 := Lib.hid hn1; clear hn1
              go_wp2_with (fail)
              refine (parseNumber_calls p1 _ (HL.out.below (Below.alloc B22.out (by first | omega | (simp only [szA, szS, szD, World.heap_drewN] at * <;> omega)) _))).mono ?_
              rw [HN1.out]
              rintro e w23 ⟨rfl, hb⟩
              have B23 := Lib.hid (Below.trans (Below.alloc B22.out (by first | omega | (simp only [szA, szS, szD, World.heap_drewN] at * <;> omega)) _) (hb.mono (by first | omega | (simp only [szA, szS, szD, World.heap_drewN] at * <;> omega))) : Below w.heap.size w w23)
              have Z23 := hb.size
              have N23 : w22.heap.size + 1 ≤ w23.heap.size := (by first | with_reducible exact Z23 | (simp only [szA, szS, szD] at Z23; omega))
              clear Z23
              have Xp_23 := Lib.hid (below_at hb (heap_up Xp_22.out))
              have Xr_23 := Lib.hid (below_at hb (heap_up Xr_22.out))
              have Xo_23 := Lib.hid (below_at hb (heap_up Xo_22.out))
              have Xlit_23 := Lib.hid (below_at hb (heap_up Xlit_22.out))
              have Xf0_23 : Hid (w23.heap[w22.heap.size]? = some (.cells #[.bool true, .pointer (some ⟨w21.heap.size, 1, none⟩)] 50 (0, 0))) := below_at hb (heap_at' (n := w22.heap.size) (by first | omega | (simp only [szA, szS, szD, World.heap_drewN] at * <;> omega)))
              have Oz_23 := Lib.hid ((Oz_22.out.alloc _).kept hb)
              clear hb
              obtain ⟨cp23_0, cp23_1, cp23_2, fp23_0, fp23_1, fp23_2⟩ := box3 Xp_23.out; have lp23 := heap_lt Xp_23.out
              obtain ⟨cr23_0, cr23_1, cr23_2, fr23_0, fr23_1, fr23_2⟩ := box3 Xr_23.out; have lr23 := heap_lt Xr_23.out
              obtain ⟨co23_0, co23_1, co23_2, fo23_0, fo23_1, fo23_2⟩ := box3 Xo_23.out; have lo23 := heap_lt Xo_23.out
              obtain ⟨clit23_0, clit23_1, clit23_2, clit23_3, flit23_0, flit23_1, flit23_2, flit23_3⟩ := box4 Xlit_23.out; have llit23 := heap_lt Xlit_23.out
              obtain ⟨cf023_0, cf023_1, ff023_0, ff023_1⟩ := box2P Xf0_23.out; have lf023 := heap_lt Xf0_23.out
              have S23 : w.heap.size ≤ w23.heap.size := (by omega)
              clear cp22_0 cp22_1 cp22_2 fp22_0 fp22_1 fp22_2 cr22_0 cr22_1 cr22_2 fr22_0 fr22_1 fr22_2 co22_0 co22_1 co22_2 fo22_0 fo22_1 fo22_2 clit22_0 clit22_1 clit22_2 clit22_3 flit22_0 flit22_1 flit22_2 flit22_3
              have nof0 : w22.heap.size ≠ w21.heap.size := by omega
              have nog0 := nof0.symm
              have k4 : (1 : Int) ≤ (m1 : Int) := by omega
              have k5 : (m1 : Int) ≤ (m1 : Int) := by omega
              by_cases h1 : m1 = 1
              · subst h1
                go_wp2_with (fail)
                obtain ⟨w24, hw⟩ : ∃ x : World, x = (w23.setCell ⟨w21.heap.size, 1, none⟩ (.int .i64 n1)) := ⟨_, rfl⟩
                have B24 := Lib.hid (show Below w.heap.size w w24 by rw [hw]; exact (below_setAt B23.out (w21.heap.size) 1 (by first | omega | (simp only [szA, szS, szD, World.heap_drewN] at * <;> omega)) (.int .i64 n1)))
                have N24 : w23.heap.size ≤ w24.heap.size := (by rw [hw]; simp only [szS, szA]; omega)
                have Oz_24 := Lib.hid (show Own w.heap.size 9 1 encZ w24 (.slice (some ⟨zb, 0, none⟩) ws.length ws.length) ws by rw [hw]; exact (Oz_23.out.setB (w21.heap.size) 1 Xo_23.out (by decide) (.int .i64 n1)))
                have Xp_24 := Lib.hid (show w24.heap[w20.heap.size]? = some (.cells #[.string s, .bool true, .bool false] 48 (0, 0)) by rw [hw]; exact (set_off (a := ⟨w21.heap.size, 1, none⟩) Xp_23.out (by first | omega | (simp only [szA, szS, szD, World.heap_drewN] at * <;> omega)) (.int .i64 n1)))
                have Xr_24 := Lib.hid (show w24.heap[w.heap.size]? = some (.cells #[.int .i64 0, .int .i64 0, .int .i64 0] 23 (0, 0)) by rw [hw]; exact (set_off (a := ⟨w21.heap.size, 1, none⟩) Xr_23.out (by first | omega | (simp only [szA, szS, szD, World.heap_drewN] at * <;> omega)) (.int .i64 n1)))
                have Xo_24 := Lib.hid (show w24.heap[w21.heap.size]? = some (.cells #[.int .i64 (k : Int), .int .i64 n1, .int .i64 0] 23 (0, 0)) by rw [hw]; exact (set_at (a := ⟨w21.heap.size, 1, none⟩) Xo_23.out rfl rfl (.int .i64 n1)))
                have Xlit_24 := Lib.hid (show w24.heap[w21.heap.size + 1]? = some (.cells #[.bool true, .pointer (some ⟨w21.heap.size, 1, none⟩), .bool false, .pointer (some ⟨w21.heap.size, 2, none⟩)] 50 (0, 0)) by rw [hw]; exact (set_off (a := ⟨w21.heap.size, 1, none⟩) Xlit_23.out (by first | omega | (simp only [szA, szS, szD, World.heap_drewN] at * <;> omega)) (.int .i64 n1)))
                have Xf0_24 := Lib.hid (show w24.heap[w22.heap.size]? = some (.cells #[.bool true, .pointer (some ⟨w21.heap.size, 1, none⟩)] 50 (0, 0)) by rw [hw]; exact (set_off (a := ⟨w21.heap.size, 1, none⟩) Xf0_23.out (by first | omega | (simp only [szA, szS, szD, World.heap_drewN] at * <;> omega)) (.int .i64 n1)))
                have Q24 := Lib.hid (show w24.heap.size = w23.heap.size by rw [hw]; simp only [szS, szA])
                have HW24 := Lib.hid hw; clear hw
                obtain ⟨cp24_0, cp24_1, cp24_2, fp24_0, fp24_1, fp24_2⟩ := box3 Xp_24.out; have lp24 := heap_lt Xp_24.out
                obtain ⟨cr24_0, cr24_1, cr24_2, fr24_0, fr24_1, fr24_2⟩ := box3 Xr_24.out; have lr24 := heap_lt Xr_24.out
                obtain ⟨co24_0, co24_1, co24_2, fo24_0, fo24_1, fo24_2⟩ := box3 Xo_24.out; have lo24 := heap_lt Xo_24.out
                obtain ⟨clit24_0, clit24_1, clit24_2, clit24_3, flit24_0, flit24_1, flit24_2, flit24_3⟩ := box4 Xlit_24.out; have llit24 := heap_lt Xlit_24.out
                obtain ⟨cf024_0, cf024_1, ff024_0, ff024_1⟩ := box2P Xf0_24.out; have lf024 := heap_lt Xf0_24.out
                have S24 : w.heap.size ≤ w24.heap.size := (by omega)
                rw [← HW24.out]
                clear cp23_0 cp23_1 cp23_2 fp23_0 fp23_1 fp23_2 cr23_0 cr23_1 cr23_2 fr23_0 fr23_1 fr23_2 co23_0 co23_1 co23_2 fo23_0 fo23_1 fo23_2 clit23_0 clit23_1 clit23_2 clit23_3 flit23_0 flit23_1 flit23_2 flit23_3 cf023_0 cf023_1 ff023_0 ff023_1
                rw [rounds_succ]
                go_wp2_with (fail)
                obtain ⟨w25, hw⟩ : ∃ x : World, x = (w24.alloc (.cells #[.bool false, .pointer (some ⟨w21.heap.size, 2, none⟩)] 50)) := ⟨_, rfl⟩
                have B25 := Lib.hid (show Below w.heap.size w w25 by rw [hw]; exact (Below.alloc B24.out (by first | omega | (simp only [szA, szS, szD, World.heap_drewN] at * <;> omega)) _))
                have N25 : w24.heap.size + 1 ≤ w25.heap.size := (by rw [hw]; simp only [szS, szA]; omega)
                have Oz_25 := Lib.hid (show Own w.heap.size 9 1 encZ w25 (.slice (some ⟨zb, 0, none⟩) ws.length ws.length) ws by rw [hw]; exact (Oz_24.out.alloc _))
                have Xp_25 := Lib.hid (show w25.heap[w20.heap.size]? = some (.cells #[.string s, .bool true, .bool false] 48 (0, 0)) by rw [hw]; exact (heap_up Xp_24.out))
                have Xr_25 := Lib.hid (show w25.heap[w.heap.size]? = some (.cells #[.int .i64 0, .int .i64 0, .int .i64 0] 23 (0, 0)) by rw [hw]; exact (heap_up Xr_24.out))
                have Xo_25 := Lib.hid (show w25.heap[w21.heap.size]? = some (.cells #[.int .i64 (k : Int), .int .i64 n1, .int .i64 0] 23 (0, 0)) by rw [hw]; exact (heap_up Xo_24.out))
                have Xlit_25 := Lib.hid (show w25.heap[w21.heap.size + 1]? = some (.cells #[.bool true, .pointer (some ⟨w21.heap.size, 1, none⟩), .bool false, .pointer (some ⟨w21.heap.size, 2, none⟩)] 50 (0, 0)) by rw [hw]; exact (heap_up Xlit_24.out))
                have Xf0_25 := Lib.hid (show w25.heap[w22.heap.size]? = some (.cells #[.bool true, .pointer (some ⟨w21.heap.size, 1, none⟩)] 50 (0, 0)) by rw [hw]; exact (heap_up Xf0_24.out))
                have Xf1_25 := Lib.hid (show w25.heap[w24.heap.size]? = some (.cells #[.bool false, .pointer (some ⟨w21.heap.size, 2, none⟩)] 50 (0, 0)) by rw [hw]; exact (heap_at' (n := w24.heap.size) (by first | omega | (simp only [szA, szS, szD, World.heap_drewN] at * <;> omega))))
                have Q25 := Lib.hid (show w25.heap.size = w24.heap.size + 1 by rw [hw]; simp only [szS, szA])
                have HW25 := Lib.hid hw; clear hw
                obtain ⟨cp25_0, cp25_1, cp25_2, fp25_0, fp25_1, fp25_2⟩ := box3 Xp_25.out; have lp25 := heap_lt Xp_25.out
                obtain ⟨cr25_0, cr25_1, cr25_2, fr25_0, fr25_1, fr25_2⟩ := box3 Xr_25.out; have lr25 := heap_lt Xr_25.out
                obtain ⟨co25_0, co25_1, co25_2, fo25_0, fo25_1, fo25_2⟩ := box3 Xo_25.out; have lo25 := heap_lt Xo_25.out
                obtain ⟨clit25_0, clit25_1, clit25_2, clit25_3, flit25_0, flit25_1, flit25_2, flit25_3⟩ := box4 Xlit_25.out; have llit25 := heap_lt Xlit_25.out
                obtain ⟨cf025_0, cf025_1, ff025_0, ff025_1⟩ := box2P Xf0_25.out; have lf025 := heap_lt Xf0_25.out
                obtain ⟨cf125_0, cf125_1, ff125_0, ff125_1⟩ := box2P Xf1_25.out; have lf125 := heap_lt Xf1_25.out
                have S25 : w.heap.size ≤ w25.heap.size := (by omega)
                rw [← HW25.out]
                clear cp24_0 cp24_1 cp24_2 fp24_0 fp24_1 fp24_2 cr24_0 cr24_1 cr24_2 fr24_0 fr24_1 fr24_2 co24_0 co24_1 co24_2 fo24_0 fo24_1 fo24_2 clit24_0 clit24_1 clit24_2 clit24_3 flit24_0 flit24_1 flit24_2 flit24_3 cf024_0 cf024_1 ff024_0 ff024_1
                rw [rounds_succ]
                have HE : Hid (ParEnd text (some ((k : Int), n1, 0))) := Lib.hid (by have h9 := HPE.out; rw [resP_1 HA.out HDL.out HP1.out HN1.out] at h9; exact h9)
                have ne_r_o : w.heap.size ≠ w21.heap.size := by omega
                have nf_r_o := ne_r_o.symm
                go_wp2_with (fail)
                refine bodyPost_ret (v := .tuple #[.agg #[.int .i64 (k : Int), .int .i64 n1, .int .i64 0], .bool true]) (by simp [results, Tryd.results6, go_sem, cr25_0, cr25_1, cr25_2, lr25, co25_0, co25_1, co25_2, lo25, ne_r_o, nf_r_o]) rfl ⟨some ((k : Int), n1, 0), rfl, HE.out, (below_setAt (below_setAt (below_setAt B25.out (w.heap.size) 0 (by first | omega | (simp only [szA, szS, szD, World.heap_drewN] at * <;> omega)) (.int .i64 (k : Int))) (w.heap.size) 1 (by first | omega | (simp only [szA, szS, szD, World.heap_drewN] at * <;> omega)) (.int .i64 n1)) (w.heap.size) 2 (by first | omega | (simp only [szA, szS, szD, World.heap_drewN] at * <;> omega)) (.int .i64 0))⟩
              · obtain ⟨m2, hm2⟩ : ∃ m, m1 - 1 = m := ⟨_, rfl⟩
                have hm2' : 1 ≤ m2 := by omega
                have t1 : decide (0 < (m2 : Int)) = true := decide_eq_true (by omega)
                have t2 : 0 < m2 := by omega
                have t3 : (0 : Int) < (m2 : Int) := by omega
                have t4 : ((m2 : Int) == 0) = false := beq_eq_false_iff_ne.2 (by omega)
                have t5 : (m2 == 0) = false := beq_eq_false_iff_ne.2 (by omega)
                have t6 : (1 : Int) ≤ (m2 : Int) := by omega
                have t7 : (m2 : Int) ≤ (m2 : Int) := by omega
                go_wp2_with (fail)
                obtain ⟨w24, hw⟩ : ∃ x : World, x = (w23.setCell ⟨w21.heap.size, 1, none⟩ (.int .i64 n1)) := ⟨_, rfl⟩
                have B24 := Lib.hid (show Below w.heap.size w w24 by rw [hw]; exact (below_setAt B23.out (w21.heap.size) 1 (by first | omega | (simp only [szA, szS, szD, World.heap_drewN] at * <;> omega)) (.int .i64 n1)))
                have N24 : w23.heap.size ≤ w24.heap.size := (by rw [hw]; simp only [szS, szA]; omega)
                have Oz_24 := Lib.hid (show Own w.heap.size 9 1 encZ w24 (.slice (some ⟨zb, 0, none⟩) ws.length ws.length) ws by rw [hw]; exact (Oz_23.out.setB (w21.heap.size) 1 Xo_23.out (by decide) (.int .i64 n1)))
                have Xp_24 := Lib.hid (show w24.heap[w20.heap.size]? = some (.cells #[.string s, .bool true, .bool false] 48 (0, 0)) by rw [hw]; exact (set_off (a := ⟨w21.heap.size, 1, none⟩) Xp_23.out (by first | omega | (simp only [szA, szS, szD, World.heap_drewN] at * <;> omega)) (.int .i64 n1)))
                have Xr_24 := Lib.hid (show w24.heap[w.heap.size]? = some (.cells #[.int .i64 0, .int .i64 0, .int .i64 0] 23 (0, 0)) by rw [hw]; exact (set_off (a := ⟨w21.heap.size, 1, none⟩) Xr_23.out (by first | omega | (simp only [szA, szS, szD, World.heap_drewN] at * <;> omega)) (.int .i64 n1)))
                have Xo_24 := Lib.hid (show w24.heap[w21.heap.size]? = some (.cells #[.int .i64 (k : Int), .int .i64 n1, .int .i64 0] 23 (0, 0)) by rw [hw]; exact (set_at (a := ⟨w21.heap.size, 1, none⟩) Xo_23.out rfl rfl (.int .i64 n1)))
                have Xlit_24 := Lib.hid (show w24.heap[w21.heap.size + 1]? = some (.cells #[.bool true, .pointer (some ⟨w21.heap.size, 1, none⟩), .bool false, .pointer (some ⟨w21.heap.size, 2, none⟩)] 50 (0, 0)) by rw [hw]; exact (set_off (a := ⟨w21.heap.size, 1, none⟩) Xlit_23.out (by first | omega | (simp only [szA, szS, szD, World.heap_drewN] at * <;> omega)) (.int .i64 n1)))
                have Xf0_24 := Lib.hid (show w24.heap[w22.heap.size]? = some (.cells #[.bool true, .pointer (some ⟨w21.heap.size, 1, none⟩)] 50 (0, 0)) by rw [hw]; exact (set_off (a := ⟨w21.heap.size, 1, none⟩) Xf0_23.out (by first | omega | (simp only [szA, szS, szD, World.heap_drewN] at * <;> omega)) (.int .i64 n1)))
                have Q24 := Lib.hid (show w24.heap.size = w23.heap.size by rw [hw]; simp only [szS, szA])
                have HW24 := Lib.hid hw; clear hw
                obtain ⟨cp24_0, cp24_1, cp24_2, fp24_0, fp24_1, fp24_2⟩ := box3 Xp_24.out; have lp24 := heap_lt Xp_24.out
                obtain ⟨cr24_0, cr24_1, cr24_2, fr24_0, fr24_1, fr24_2⟩ := box3 Xr_24.out; have lr24 := heap_lt Xr_24.out
                obtain ⟨co24_0, co24_1, co24_2, fo24_0, fo24_1, fo24_2⟩ := box3 Xo_24.out; have lo24 := heap_lt Xo_24.out
                obtain ⟨clit24_0, clit24_1, clit24_2, clit24_3, flit24_0, flit24_1, flit24_2, flit24_3⟩ := box4 Xlit_24.out; have llit24 := heap_lt Xlit_24.out
                obtain ⟨cf024_0, cf024_1, ff024_0, ff024_1⟩ := box2P Xf0_24.out; have lf024 := heap_lt Xf0_24.out
                have S24 : w.heap.size ≤ w24.heap.size := (by omega)
                rw [← HW24.out]
                clear cp23_0 cp23_1 cp23_2 fp23_0 fp23_1 fp23_2 cr23_0 cr23_1 cr23_2 fr23_0 fr23_1 fr23_2 co23_0 co23_1 co23_2 fo23_0 fo23_1 fo23_2 clit23_0 clit23_1 clit23_2 clit23_3 flit23_0 flit23_1 flit23_2 flit23_3 cf023_0 cf023_1 ff023_0 ff023_1
                rw [rounds_succ]
                go_wp2_with (fail)
                obtain ⟨w25, hw⟩ : ∃ x : World, x = (w24.alloc (.cells #[.bool false, .pointer (some ⟨w21.heap.size, 2, none⟩)] 50)) := ⟨_, rfl⟩
                have B25 := Lib.hid (show Below w.heap.size w w25 by rw [hw]; exact (Below.alloc B24.out (by first | omega | (simp only [szA, szS, szD, World.heap_drewN] at * <;> omega)) _))
                have N25 : w24.heap.size + 1 ≤ w25.heap.size := (by rw [hw]; simp only [szS, szA]; omega)
                have Oz_25 := Lib.hid (show Own w.heap.size 9 1 encZ w25 (.slice (some ⟨zb, 0, none⟩) ws.length ws.length) ws by rw [hw]; exact (Oz_24.out.alloc _))
                have Xp_25 := Lib.hid (show w25.heap[w20.heap.size]? = some (.cells #[.string s, .bool true, .bool false] 48 (0, 0)) by rw [hw]; exact (heap_up Xp_24.out))
                have Xr_25 := Lib.hid (show w25.heap[w.heap.size]? = some (.cells #[.int .i64 0, .int .i64 0, .int .i64 0] 23 (0, 0)) by rw [hw]; exact (heap_up Xr_24.out))
                have Xo_25 := Lib.hid (show w25.heap[w21.heap.size]? = some (.cells #[.int .i64 (k : Int), .int .i64 n1, .int .i64 0] 23 (0, 0)) by rw [hw]; exact (heap_up Xo_24.out))
                have Xlit_25 := Lib.hid (show w25.heap[w21.heap.size + 1]? = some (.cells #[.bool true, .pointer (some ⟨w21.heap.size, 1, none⟩), .bool false, .pointer (some ⟨w21.heap.size, 2, none⟩)] 50 (0, 0)) by rw [hw]; exact (heap_up Xlit_24.out))
                have Xf0_25 := Lib.hid (show w25.heap[w22.heap.size]? = some (.cells #[.bool true, .pointer (some ⟨w21.heap.size, 1, none⟩)] 50 (0, 0)) by rw [hw]; exact (heap_up Xf0_24.out))
                have Xf1_25 := Lib.hid (show w25.heap[w24.heap.size]? = some (.cells #[.bool false, .pointer (some ⟨w21.heap.size, 2, none⟩)] 50 (0, 0)) by rw [hw]; exact (heap_at' (n := w24.heap.size) (by first | omega | (simp only [szA, szS, szD, World.heap_drewN] at * <;> omega))))
                have Q25 := Lib.hid (show w25.heap.size = w24.heap.size + 1 by rw [hw]; simp only [szS, szA])
                have HW25 := Lib.hid hw; clear hw
                obtain ⟨cp25_0, cp25_1, cp25_2, fp25_0, fp25_1, fp25_2⟩ := box3 Xp_25.out; have lp25 := heap_lt Xp_25.out
                obtain ⟨cr25_0, cr25_1, cr25_2, fr25_0, fr25_1, fr25_2⟩ := box3 Xr_25.out; have lr25 := heap_lt Xr_25.out
                obtain ⟨co25_0, co25_1, co25_2, fo25_0, fo25_1, fo25_2⟩ := box3 Xo_25.out; have lo25 := heap_lt Xo_25.out
                obtain ⟨clit25_0, clit25_1, clit25_2, clit25_3, flit25_0, flit25_1, flit25_2, flit25_3⟩ := box4 Xlit_25.out; have llit25 := heap_lt Xlit_25.out
                obtain ⟨cf025_0, cf025_1, ff025_0, ff025_1⟩ := box2P Xf0_25.out; have lf025 := heap_lt Xf0_25.out
                obtain ⟨cf125_0, cf125_1, ff125_0, ff125_1⟩ := box2P Xf1_25.out; have lf125 := heap_lt Xf1_25.out
                have S25 : w.heap.size ≤ w25.heap.size := (by omega)
                rw [← HW25.out]
                clear cp24_0 cp24_1 cp24_2 fp24_0 fp24_1 fp24_2 cr24_0 cr24_1 cr24_2 fr24_0 fr24_1 fr24_2 co24_0 co24_1 co24_2 fo24_0 fo24_1 fo24_2 clit24_0 clit24_1 clit24_2 clit24_3 flit24_0 flit24_1 flit24_2 flit24_3 cf024_0 cf024_1 ff024_0 ff024_1
                rw [rounds_succ]
                have HE : Hid (ParEnd text none) := Lib.hid (by have h9 := HPE.out; rw [resP_len1 (by rw [HA.out]; decide) (by rw [HDL.out]; omega)] at h9; exact h9)
                go_wp2_with (fail)
                refine bodyPost_ret (v := .tuple #[.agg #[.int .i64 0, .int .i64 0, .int .i64 0], .bool false]) (by simp [results, Tryd.results6, go_sem, cr25_0, cr25_1, cr25_2, lr25]) rfl ⟨none, rfl, HE.out, (below_setAt (below_setAt (below_setAt B25.out (w.heap.size) 0 (by first | omega | (simp only [szA, szS, szD, World.heap_drewN] at * <;> omega)) (.int .i64 0)) (w.heap.size) 1 (by first | omega | (simp only [szA, szS, szD, World.heap_drewN] at * <;> omega)) (.int .i64 0)) (w.heap.size) 2 (by first | omega | (simp only [szA, szS, szD, World.heap_drewN] at * <;> omega)) (.int .i64 0))⟩
        · have HA := Lib.hid ha; clear ha
          obtain rfl : bo = true := by rw [HBO.out, HA.out]; rfl
          obtain rfl : br = true := by rw [HBR.out, HA.out]; rfl
          by_cases hl1 : ws.length = 1
          · have s1 : ((0 : Int) == 0) = true := rfl
            go_wp2_with (fail)
            refine wp_loop_rounds 3 ?_
            obtain ⟨w22, hw⟩ : ∃ x : World, x = ((w21.alloc (.cells #[.int .i64 (k : Int), .int .i64 0, .int .i64 0] 23)).alloc (.cells #[.bool true, .pointer (some ⟨w21.heap.size, 1, none⟩), .bool true, .pointer (some ⟨w21.heap.size, 2, none⟩)] 50)) := ⟨_, rfl⟩
            have B22 := Lib.hid (show Below w.heap.size w w22 by rw [hw]; exact (Below.alloc (Below.alloc B21.out (by first | omega | (simp only [szA, szS, szD, World.heap_drewN] at * <;> omega)) _) (by first | omega | (simp only [szA, szS, szD, World.heap_drewN] at * <;> omega)) _))
            have N22 : w21.heap.size + 2 ≤ w22.heap.size := (by rw [hw]; simp only [szS, szA]; omega)
            have Oz_22 := Lib.hid (show Own w.heap.size 9 1 encZ w22 (.slice (some ⟨zb, 0, none⟩) ws.length ws.length) ws by rw [hw]; exact ((Oz_21.out.alloc _).alloc _))
            have Xp_22 := Lib.hid (show w22.heap[w20.heap.size]? = some (.cells #[.string s, .bool true, .bool true] 48 (0, 0)) by rw [hw]; exact (heap_up (heap_up Xp_21.out)))
            have Xr_22 := Lib.hid (show w22.heap[w.heap.size]? = some (.cells #[.int .i64 0, .int .i64 0, .int .i64 0] 23 (0, 0)) by rw [hw]; exact (heap_up (heap_up Xr_21.out)))
            have Xo_22 := Lib.hid (show w22.heap[w21.heap.size]? = some (.cells #[.int .i64 (k : Int), .int .i64 0, .int .i64 0] 23 (0, 0)) by rw [hw]; exact (heap_up (heap_at' (n := w21.heap.size) (by first | omega | (simp only [szA, szS, szD, World.heap_drewN] at * <;> omega)))))
            have Xlit_22 := Lib.hid (show w22.heap[w21.heap.size + 1]? = some (.cells #[.bool true, .pointer (some ⟨w21.heap.size, 1, none⟩), .bool true, .pointer (some ⟨w21.heap.size, 2, none⟩)] 50 (0, 0)) by rw [hw]; exact (heap_at' (n := w21.heap.size + 1) (by first | omega | (simp only [szA, szS, szD, World.heap_drewN] at * <;> omega))))
            have Q22 := Lib.hid (show w22.heap.size = w21.heap.size + 2 by rw [hw]; simp only [szS, szA])
            have HW22 := Lib.hid hw; clear hw
            obtain ⟨cp22_0, cp22_1, cp22_2, fp22_0, fp22_1, fp22_2⟩ := box3 Xp_22.out; have lp22 := heap_lt Xp_22.out
            obtain ⟨cr22_0, cr22_1, cr22_2, fr22_0, fr22_1, fr22_2⟩ := box3 Xr_22.out; have lr22 := heap_lt Xr_22.out
            obtain ⟨co22_0, co22_1, co22_2, fo22_0, fo22_1, fo22_2⟩ := box3 Xo_22.out; have lo22 := heap_lt Xo_22.out
            obtain ⟨clit22_0, clit22_1, clit22_2, clit22_3, flit22_0, flit22_1, flit22_2, flit22_3⟩ := box4 Xlit_22.out; have llit22 := heap_lt Xlit_22.out
            have S22 : w.heap.size ≤ w22.heap.size := (by omega)
            rw [← HW22.out]
            rw [rounds_succ]
            have HE : Hid (ParEnd text none) := Lib.hid (by have h9 := HPE.out; rw [resP_len2 HA.out (by rw [List.length_drop]; omega)] at h9; exact h9)
            have nr_r0 : w.heap.size ≠ w22.heap.size := by omega
            go_wp2_with (fail)
            refine bodyPost_ret (v := .tuple #[.agg #[.int .i64 0, .int .i64 0, .int .i64 0], .bool false]) (by simp [results, Tryd.results6, go_sem, cr22_0, cr22_1, cr22_2, lr22]) rfl ⟨none, rfl, HE.out, (Below.alloc (below_setAt (below_setAt (below_setAt B22.out (w.heap.size) 0 (by first | omega | (simp only [szA, szS, szD, World.heap_drewN] at * <;> omega)) (.int .i64 0)) (w.heap.size) 1 (by first | omega | (simp only [szA, szS, szD, World.heap_drewN] at * <;> omega)) (.int .i64 0)) (w.heap.size) 2 (by first | omega | (simp only [szA, szS, szD, World.heap_drewN] at * <;> omega)) (.int .i64 0)) (by first | omega | (simp only [szA, szS, szD, World.heap_drewN] at * <;> omega)) _)⟩
          · obtain ⟨m1, hm1⟩ : ∃ m, ws.length - 1 = m := ⟨_, rfl⟩
            have hm1' : 1 ≤ m1 := by omega
            have hm1n : m1 ≤ 2000000 := by omega
            obtain ⟨p1, hp1⟩ := get_ex (show 1 < ws.length by omega)
            have HP1 := Lib.hid (show (ws.drop 1)[0]? = some p1 by rw [List.getElem?_drop]; exact hp1)
            have HDL := Lib.hid (show (ws.drop 1).length = m1 by rw [List.length_drop]; exact hm1)
            have HQ1 := Lib.hid hp1; clear hp1
            have k1 : (1 : Int) ≤ (ws.length : Int) := by omega
            have k2 : 1 ≤ ws.length := by omega
            have k3 : (ws.length : Int) ≤ (ws.length : Int) := by omega
            have s1 : ((m1 : Int) == 0) = false := beq_eq_false_iff_ne.2 (by omega)
            have s2 : (m1 == 0) = false := beq_eq_false_iff_ne.2 (by omega)
            have s3 : 0 < m1 := by omega
            have s4 : (0 : Int) < (m1 : Int) := by omega
            go_wp2_with (fail)
            refine wp_loop_rounds 3 ?_
            obtain ⟨w22, hw⟩ : ∃ x : World, x = ((w21.alloc (.cells #[.int .i64 (k : Int), .int .i64 0, .int .i64 0] 23)).alloc (.cells #[.bool true, .pointer (some ⟨w21.heap.size, 1, none⟩), .bool true, .pointer (some ⟨w21.heap.size, 2, none⟩)] 50)) := ⟨_, rfl⟩
            have B22 := Lib.hid (show Below w.heap.size w w22 by rw [hw]; exact (Below.alloc (Below.alloc B21.out (by first | omega | (simp only [szA, szS, szD, World.heap_drewN] at * <;> omega)) _) (by first | omega | (simp only [szA, szS, szD, World.heap_drewN] at * <;> omega)) _))
            have N22 : w21.heap.size + 2 ≤ w22.heap.size := (by rw [hw]; simp only [szS, szA]; omega)
            have Oz_22 := Lib.hid (show Own w.heap.size 9 1 encZ w22 (.slice (some ⟨zb, 0, none⟩) ws.length ws.length) ws by rw [hw]; exact ((Oz_21.out.alloc _).alloc _))
            have Xp_22 := Lib.hid (show w22.heap[w20.heap.size]? = some (.cells #[.string s, .bool true, .bool true] 48 (0, 0)) by rw [hw]; exact (heap_up (heap_up Xp_21.out)))
            have Xr_22 := Lib.hid (show w22.heap[w.heap.size]? = some (.cells #[.int .i64 0, .int .i64 0, .int .i64 0] 23 (0, 0)) by rw [hw]; exact (heap_up (heap_up Xr_21.out)))
            have Xo_22 := Lib.hid (show w22.heap[w21.heap.size]? = some (.cells #[.int .i64 (k : Int), .int .i64 0, .int .i64 0] 23 (0, 0)) by rw [hw]; exact (heap_up (heap_at' (n := w21.heap.size) (by first | omega | (simp only [szA, szS, szD, World.heap_drewN] at * <;> omega)))))
            have Xlit_22 := Lib.hid (show w22.heap[w21.heap.size + 1]? = some (.cells #[.bool true, .pointer (some ⟨w21.heap.size, 1, none⟩), .bool true, .pointer (some ⟨w21.heap.size, 2, none⟩)] 50 (0, 0)) by rw [hw]; exact (heap_at' (n := w21.heap.size + 1) (by first | omega | (simp only [szA, szS, szD, World.heap_drewN] at * <;> omega))))
            have Q22 := Lib.hid (show w22.heap.size = w21.heap.size + 2 by rw [hw]; simp only [szS, szA])
            have HW22 := Lib.hid hw; clear hw
            obtain ⟨cp22_0, cp22_1, cp22_2, fp22_0, fp22_1, fp22_2⟩ := box3 Xp_22.out; have lp22 := heap_lt Xp_22.out
            obtain ⟨cr22_0, cr22_1, cr22_2, fr22_0, fr22_1, fr22_2⟩ := box3 Xr_22.out; have lr22 := heap_lt Xr_22.out
            obtain ⟨co22_0, co22_1, co22_2, fo22_0, fo22_1, fo22_2⟩ := box3 Xo_22.out; have lo22 := heap_lt Xo_22.out
            obtain ⟨clit22_0, clit22_1, clit22_2, clit22_3, flit22_0, flit22_1, flit22_2, flit22_3⟩ := box4 Xlit_22.out; have llit22 := heap_lt Xlit_22.out
            have S22 : w.heap.size ≤ w22.heap.size := (by omega)
            rw [← HW22.out]
            obtain ⟨cz1, hz1⟩ := zrow_cell (Oz_22.out.row encZ_len) HQ1.out
            rw [rounds_succ]
            rcases hn1 : numB p1 with _ | n1
            · have HN1 := Lib.hid hn1; clear hn1
              go_wp2_with (fail)
              refine (parseNumber_calls p1 _ (HL.out.below (Below.alloc B22.out (by first | omega | (simp only [szA, szS, szD, World.heap_drewN] at * <;> omega)) _))).mono ?_
              rw [HN1.out]
              rintro e w23 ⟨rfl, hb⟩
              have B23 := Lib.hid (Below.trans (Below.alloc B22.out (by first | omega | (simp only [szA, szS, szD, World.heap_drewN] at * <;> omega)) _) (hb.mono (by first | omega | (simp only [szA, szS, szD, World.heap_drewN] at * <;> omega))) : Below w.heap.size w w23)
              have Z23 := hb.size
              have N23 : w22.heap.size + 1 ≤ w23.heap.size := (by first | with_reducible exact Z23 | (simp only [szA, szS, szD] at Z23; omega))
              clear Z23
              have Xp_23 := Lib.hid (below_at hb (heap_up Xp_22.out))
              have Xr_23 := Lib.hid (below_at hb (heap_up Xr_22.out))
              have Xo_23 := Lib.hid (below_at hb (heap_up Xo_22.out))
              have Xlit_23 := Lib.hid (below_at hb (heap_up Xlit_22.out))
              have Xf0_23 : Hid (w23.heap[w22.heap.size]? = some (.cells #[.bool true, .pointer (some ⟨w21.heap.size, 1, none⟩)] 50 (0, 0))) := below_at hb (heap_at' (n := w22.heap.size) (by first | omega | (simp only [szA, szS, szD, World.heap_drewN] at * <;> omega)))
              have Oz_23 := Lib.hid ((Oz_22.out.alloc _).kept hb)
              clear hb
              obtain ⟨cp23_0, cp23_1, cp23_2, fp23_0, fp23_1, fp23_2⟩ := box3 Xp_23.out; have lp23 := heap_lt Xp_23.out
              obtain ⟨cr23_0, cr23_1, cr23_2, fr23_0, fr23_1, fr23_2⟩ := box3 Xr_23.out; have lr23 := heap_lt Xr_23.out
              obtain ⟨co23_0, co23_1, co23_2, fo23_0, fo23_1, fo23_2⟩ := box3 Xo_23.out; have lo23 := heap_lt Xo_23.out
              obtain ⟨clit23_0, clit23_1, clit23_2, clit23_3, flit23_0, flit23_1, flit23_2, flit23_3⟩ := box4 Xlit_23.out; have llit23 := heap_lt Xlit_23.out
              obtain ⟨cf023_0, cf023_1, ff023_0, ff023_1⟩ := box2P Xf0_23.out; have lf023 := heap_lt Xf0_23.out
              have S23 : w.heap.size ≤ w23.heap.size := (by omega)
              clear cp22_0 cp22_1 cp22_2 fp22_0 fp22_1 fp22_2 cr22_0 cr22_1 cr22_2 fr22_0 fr22_1 fr22_2 co22_0 co22_1 co22_2 fo22_0 fo22_1 fo22_2 clit22_0 clit22_1 clit22_2 clit22_3 flit22_0 flit22_1 flit22_2 flit22_3
              have HE : Hid (ParEnd text none) := Lib.hid (by have h9 := HPE.out; rw [resP_bad HP1.out HN1.out] at h9; exact h9)
              go_wp2_with (fail)
              refine bodyPost_ret (v := .tuple #[.agg #[.int .i64 0, .int .i64 0, .int .i64 0], .bool false]) (by simp [results, Tryd.results6, go_sem, cr23_0, cr23_1, cr23_2, lr23]) rfl ⟨none, rfl, HE.out, (below_setAt (below_setAt (below_setAt B23.out (w.heap.size) 0 (by first | omega | (simp only [szA, szS, szD, World.heap_drewN] at * <;> omega)) (.int .i64 0)) (w.heap.size) 1 (by first | omega | (simp only [szA, szS, szD, World.heap_drewN] at * <;> omega)) (.int .i64 0)) (w.heap.size) 2 (by first | omega | (simp only [szA, szS, szD, World.heap_drewN] at * <;> omega)) (.int .i64 0))⟩
            · have HN1 := Lib.hid hn1; clear hn1
              go_wp2_with (fail)
              refine (parseNumber_calls p1 _ (HL.out.below (Below.alloc B22.out (by first | omega | (simp only [szA, szS, szD, World.heap_drewN] at * <;> omega)) _))).mono ?_
              rw [HN1.out]
              rintro e w23 ⟨rfl, hb⟩
              have B23 := Lib.hid (Below.trans (Below.alloc B22.out (by first | omega | (simp only [szA, szS, szD, World.heap_drewN] at * <;> omega)) _) (hb.mono (by first | omega | (simp only [szA, szS, szD, World.heap_drewN] at * <;> omega))) : Below w.heap.size w w23)
              have Z23 := hb.size
              have N23 : w22.heap.size + 1 ≤ w23.heap.size := (by first | with_reducible exact Z23 | (simp only [szA, szS, szD] at Z23; omega))
              clear Z23
              have Xp_23 := Lib.hid (below_at hb (heap_up Xp_22.out))
              have Xr_23 := Lib.hid (below_at hb (heap_up Xr_22.out))
              have Xo_23 := Lib.hid (below_at hb (heap_up Xo_22.out))
              have Xlit_23 := Lib.hid (below_at hb (heap_up Xlit_22.out))
              have Xf0_23 : Hid (w23.heap[w22.heap.size]? = some (.cells #[.bool true, .pointer (some ⟨w21.heap.size, 1, none⟩)] 50 (0, 0))) := below_at hb (heap_at' (n := w22.heap.size) (by first | omega | (simp only [szA, szS, szD, World.heap_drewN] at * <;> omega)))
              have Oz_23 := Lib.hid ((Oz_22.out.alloc _).kept hb)
              clear hb
              obtain ⟨cp23_0, cp23_1, cp23_2, fp23_0, fp23_1, fp23_2⟩ := box3 Xp_23.out; have lp23 := heap_lt Xp_23.out
              obtain ⟨cr23_0, cr23_1, cr23_2, fr23_0, fr23_1, fr23_2⟩ := box3 Xr_23.out; have lr23 := heap_lt Xr_23.out
              obtain ⟨co23_0, co23_1, co23_2, fo23_0, fo23_1, fo23_2⟩ := box3 Xo_23.out; have lo23 := heap_lt Xo_23.out
              obtain ⟨clit23_0, clit23_1, clit23_2, clit23_3, flit23_0, flit23_1, flit23_2, flit23_3⟩ := box4 Xlit_23.out; have llit23 := heap_lt Xlit_23.out
              obtain ⟨cf023_0, cf023_1, ff023_0, ff023_1⟩ := box2P Xf0_23.out; have lf023 := heap_lt Xf0_23.out
              have S23 : w.heap.size ≤ w23.heap.size := (by omega)
              clear cp22_0 cp22_1 cp22_2 fp22_0 fp22_1 fp22_2 cr22_0 cr22_1 cr22_2 fr22_0 fr22_1 fr22_2 co22_0 co22_1 co22_2 fo22_0 fo22_1 fo22_2 clit22_0 clit22_1 clit22_2 clit22_3 flit22_0 flit22_1 flit22_2 flit22_3
              have nof0 : w22.heap.size ≠ w21.heap.size := by omega
              have nog0 := nof0.symm
              have k4 : (1 : Int) ≤ (m1 : Int) := by omega
              have k5 : (m1 : Int) ≤ (m1 : Int) := by omega
              by_cases h1 : m1 = 1
              · subst h1
                go_wp2_with (fail)
                obtain ⟨w24, hw⟩ : ∃ x : World, x = (w23.setCell ⟨w21.heap.size, 1, none⟩ (.int .i64 n1)) := ⟨_, rfl⟩
                have B24 := Lib.hid (show Below w.heap.size w w24 by rw [hw]; exact (below_setAt B23.out (w21.heap.size) 1 (by first | omega | (simp only [szA, szS, szD, World.heap_drewN] at * <;> omega)) (.int .i64 n1)))
                have N24 : w23.heap.size ≤ w24.heap.size := (by rw [hw]; simp only [szS, szA]; omega)
                have Oz_24 := Lib.hid (show Own w.heap.size 9 1 encZ w24 (.slice (some ⟨zb, 0, none⟩) ws.length ws.length) ws by rw [hw]; exact (Oz_23.out.setB (w21.heap.size) 1 Xo_23.out (by decide) (.int .i64 n1)))
                have Xp_24 := Lib.hid (show w24.heap[w20.heap.size]? = some (.cells #[.string s, .bool true, .bool true] 48 (0, 0)) by rw [hw]; exact (set_off (a := ⟨w21.heap.size, 1, none⟩) Xp_23.out (by first | omega | (simp only [szA, szS, szD, World.heap_drewN] at * <;> omega)) (.int .i64 n1)))
                have Xr_24 := Lib.hid (show w24.heap[w.heap.size]? = some (.cells #[.int .i64 0, .int .i64 0, .int .i64 0] 23 (0, 0)) by rw [hw]; exact (set_off (a := ⟨w21.heap.size, 1, none⟩) Xr_23.out (by first | omega | (simp only [szA, szS, szD, World.heap_drewN] at * <;> omega)) (.int .i64 n1)))
                have Xo_24 := Lib.hid (show w24.heap[w21.heap.size]? = some (.cells #[.int .i64 (k : Int), .int .i64 n1, .int .i64 0] 23 (0, 0)) by rw [hw]; exact (set_at (a := ⟨w21.heap.size, 1, none⟩) Xo_23.out rfl rfl (.int .i64 n1)))
                have Xlit_24 := Lib.hid (show w24.heap[w21.heap.size + 1]? = some (.cells #[.bool true, .pointer (some ⟨w21.heap.size, 1, none⟩), .bool true, .pointer (some ⟨w21.heap.size, 2, none⟩)] 50 (0, 0)) by rw [hw]; exact (set_off (a := ⟨w21.heap.size, 1, none⟩) Xlit_23.out (by first | omega | (simp only [szA, szS, szD, World.heap_drewN] at * <;> omega)) (.int .i64 n1)))
                have Xf0_24 := Lib.hid (show w24.heap[w22.heap.size]? = some (.cells #[.bool true, .pointer (some ⟨w21.heap.size, 1, none⟩)] 50 (0, 0)) by rw [hw]; exact (set_off (a := ⟨w21.heap.size, 1, none⟩) Xf0_23.out (by first | omega | (simp only [szA, szS, szD, World.heap_drewN] at * <;> omega)) (.int .i64 n1)))
                have Q24 := Lib.hid (show w24.heap.size = w23.heap.size by rw [hw]; simp only [szS, szA])
                have HW24 := Lib.hid hw; clear hw
                obtain ⟨cp24_0, cp24_1, cp24_2, fp24_0, fp24_1, fp24_2⟩ := box3 Xp_24.out; have lp24 := heap_lt Xp_24.out
                obtain ⟨cr24_0, cr24_1, cr24_2, fr24_0, fr24_1, fr24_2⟩ := box3 Xr_24.out; have lr24 := heap_lt Xr_24.out
                obtain ⟨co24_0, co24_1, co24_2, fo24_0, fo24_1, fo24_2⟩ := box3 Xo_24.out; have lo24 := heap_lt Xo_24.out
                obtain ⟨clit24_0, clit24_1, clit24_2, clit24_3, flit24_0, flit24_1, flit24_2, flit24_3⟩ := box4 Xlit_24.out; have llit24 := heap_lt Xlit_24.out
                obtain ⟨cf024_0, cf024_1, ff024_0, ff024_1⟩ := box2P Xf0_24.out; have lf024 := heap_lt Xf0_24.out
                have S24 : w.heap.size ≤ w24.heap.size := (by omega)
                rw [← HW24.out]
                clear cp23_0 cp23_1 cp23_2 fp23_0 fp23_1 fp23_2 cr23_0 cr23_1 cr23_2 fr23_0 fr23_1 fr23_2 co23_0 co23_1 co23_2 fo23_0 fo23_1 fo23_2 clit23_0 clit23_1 clit23_2 clit23_3 flit23_0 flit23_1 flit23_2 flit23_3 cf023_0 cf023_1 ff023_0 ff023_1
                rw [rounds_succ]
                have HE : Hid (ParEnd text none) := Lib.hid (by have h9 := HPE.out; rw [resP_len2 HA.out (by rw [HDL.out]; decide)] at h9; exact h9)
                have nr_r0 : w.heap.size ≠ w24.heap.size := by omega
                go_wp2_with (fail)
                refine bodyPost_ret (v := .tuple #[.agg #[.int .i64 0, .int .i64 0, .int .i64 0], .bool false]) (by simp [results, Tryd.results6, go_sem, cr24_0, cr24_1, cr24_2, lr24]) rfl ⟨none, rfl, HE.out, (Below.alloc (below_setAt (below_setAt (below_setAt B24.out (w.heap.size) 0 (by first | omega | (simp only [szA, szS, szD, World.heap_drewN] at * <;> omega)) (.int .i64 0)) (w.heap.size) 1 (by first | omega | (simp only [szA, szS, szD, World.heap_drewN] at * <;> omega)) (.int .i64 0)) (w.heap.size) 2 (by first | omega | (simp only [szA, szS, szD, World.heap_drewN] at * <;> omega)) (.int .i64 0)) (by first | omega | (simp only [szA, szS, szD, World.heap_drewN] at * <;> omega)) _)⟩
              · obtain ⟨m2, hm2⟩ : ∃ m, m1 - 1 = m := ⟨_, rfl⟩
                have hm2' : 1 ≤ m2 := by omega
                have t1 : decide (0 < (m2 : Int)) = true := decide_eq_true (by omega)
                have t2 : 0 < m2 := by omega
                have t3 : (0 : Int) < (m2 : Int) := by omega
                have t4 : ((m2 : Int) == 0) = false := beq_eq_false_iff_ne.2 (by omega)
                have t5 : (m2 == 0) = false := beq_eq_false_iff_ne.2 (by omega)
                have t6 : (1 : Int) ≤ (m2 : Int) := by omega
                have t7 : (m2 : Int) ≤ (m2 : Int) := by omega
                go_wp2_with (fail)
                obtain ⟨w24, hw⟩ : ∃ x : World, x = (w23.setCell ⟨w21.heap.size, 1, none⟩ (.int .i64 n1)) := ⟨_, rfl⟩
                have B24 := Lib.hid (show Below w.heap.size w w24 by rw [hw]; exact (below_setAt B23.out (w21.heap.size) 1 (by first | omega | (simp only [szA, szS, szD, World.heap_drewN] at * <;> omega)) (.int .i64 n1)))
                have N24 : w23.heap.size ≤ w24.heap.size := (by rw [hw]; simp only [szS, szA]; omega)
                have Oz_24 := Lib.hid (show Own w.heap.size 9 1 encZ w24 (.slice (some ⟨zb, 0, none⟩) ws.length ws.length) ws by rw [hw]; exact (Oz_23.out.setB (w21.heap.size) 1 Xo_23.out (by decide) (.int .i64 n1)))
                have Xp_24 := Lib.hid (show w24.heap[w20.heap.size]? = some (.cells #[.string s, .bool true, .bool true] 48 (0, 0)) by rw [hw]; exact (set_off (a := ⟨w21.heap.size, 1, none⟩) Xp_23.out (by first | omega | (simp only [szA, szS, szD, World.heap_drewN] at * <;> omega)) (.int .i64 n1)))
                have Xr_24 := Lib.hid (show w24.heap[w.heap.size]? = some (.cells #[.int .i64 0, .int .i64 0, .int .i64 0] 23 (0, 0)) by rw [hw]; exact (set_off (a := ⟨w21.heap.size, 1, none⟩) Xr_23.out (by first | omega | (simp only [szA, szS, szD, World.heap_drewN] at * <;> omega)) (.int .i64 n1)))
                have Xo_24 := Lib.hid (show w24.heap[w21.heap.size]? = some (.cells #[.int .i64 (k : Int), .int .i64 n1, .int .i64 0] 23 (0, 0)) by rw [hw]; exact (set_at (a := ⟨w21.heap.size, 1, none⟩) Xo_23.out rfl rfl (.int .i64 n1)))
                have Xlit_24 := Lib.hid (show w24.heap[w21.heap.size + 1]? = some (.cells #[.bool true, .pointer (some ⟨w21.heap.size, 1, none⟩), .bool true, .pointer (some ⟨w21.heap.size, 2, none⟩)] 50 (0, 0)) by rw [hw]; exact (set_off (a := ⟨w21.heap.size, 1, none⟩) Xlit_23.out (by first | omega | (simp only [szA, szS, szD, World.heap_drewN] at * <;> omega)) (.int .i64 n1)))
                have Xf0_24 := Lib.hid (show w24.heap[w22.heap.size]? = some (.cells #[.bool true, .pointer (some ⟨w21.heap.size, 1, none⟩)] 50 (0, 0)) by rw [hw]; exact (set_off (a := ⟨w21.heap.size, 1, none⟩) Xf0_23.out (by first | omega | (simp only [szA, szS, szD, World.heap_drewN] at * <;> omega)) (.int .i64 n1)))
                have Q24 := Lib.hid (show w24.heap.size = w23.heap.size by rw [hw]; simp only [szS, szA])
                have HW24 := Lib.hid hw; clear hw
                obtain ⟨cp24_0, cp24_1, cp24_2, fp24_0, fp24_1, fp24_2⟩ := box3 Xp_24.out; have lp24 := heap_lt Xp_24.out
                obtain ⟨cr24_0, cr24_1, cr24_2, fr24_0, fr24_1, fr24_2⟩ := box3 Xr_24.out; have lr24 := heap_lt Xr_24.out
                obtain ⟨co24_0, co24_1, co24_2, fo24_0, fo24_1, fo24_2⟩ := box3 Xo_24.out; have lo24 := heap_lt Xo_24.out
                obtain ⟨clit24_0, clit24_1, clit24_2, clit24_3, flit24_0, flit24_1, flit24_2, flit24_3⟩ := box4 Xlit_24.out; have llit24 := heap_lt Xlit_24.out
                obtain ⟨cf024_0, cf024_1, ff024_0, ff024_1⟩ := box2P Xf0_24.out; have lf024 := heap_lt Xf0_24.out
                have S24 : w.heap.size ≤ w24.heap.size := (by omega)
                rw [← HW24.out]
                clear cp23_0 cp23_1 cp23_2 fp23_0 fp23_1 fp23_2 cr23_0 cr23_1 cr23_2 fr23_0 fr23_1 fr23_2 co23_0 co23_1 co23_2 fo23_0 fo23_1 fo23_2 clit23_0 clit23_1 clit23_2 clit23_3 flit23_0 flit23_1 flit23_2 flit23_3 cf023_0 cf023_1 ff023_0 ff023_1
                rw [rounds_succ]
                obtain ⟨p2, hp2⟩ := get_ex (show 2 < ws.length by omega)
                have HP2 := Lib.hid (show (ws.drop 1)[1]? = some p2 by rw [List.getElem?_drop]; exact hp2)
                obtain ⟨cz2, hz2⟩ := zrow_cell (Oz_24.out.row encZ_len) hp2
                clear hp2
                rcases hn2 : numB p2 with _ | n2
                · have HN2 := Lib.hid hn2; clear hn2
                  go_wp2_with (fail)
                  refine (parseNumber_calls p2 _ (HL.out.below (Below.alloc B24.out (by first | omega | (simp only [szA, szS, szD, World.heap_drewN] at * <;> omega)) _))).mono ?_
                  rw [HN2.out]
                  rintro e w25 ⟨rfl, hb⟩
                  have B25 := Lib.hid (Below.trans (Below.alloc B24.out (by first | omega | (simp only [szA, szS, szD, World.heap_drewN] at * <;> omega)) _) (hb.mono (by first | omega | (simp only [szA, szS, szD, World.heap_drewN] at * <;> omega))) : Below w.heap.size w w25)
                  have Z25 := hb.size
                  have N25 : w24.heap.size + 1 ≤ w25.heap.size := (by first | with_reducible exact Z25 | (simp only [szA, szS, szD] at Z25; omega))
                  clear Z25
                  have Xp_25 := Lib.hid (below_at hb (heap_up Xp_24.out))
                  have Xr_25 := Lib.hid (below_at hb (heap_up Xr_24.out))
                  have Xo_25 := Lib.hid (below_at hb (heap_up Xo_24.out))
                  have Xlit_25 := Lib.hid (below_at hb (heap_up Xlit_24.out))
                  have Xf0_25 := Lib.hid (below_at hb (heap_up Xf0_24.out))
                  have Xf1_25 : Hid (w25.heap[w24.heap.size]? = some (.cells #[.bool true, .pointer (some ⟨w21.heap.size, 2, none⟩)] 50 (0, 0))) := below_at hb (heap_at' (n := w24.heap.size) (by first | omega | (simp only [szA, szS, szD, World.heap_drewN] at * <;> omega)))
                  have Oz_25 := Lib.hid ((Oz_24.out.alloc _).kept hb)
                  clear hb
                  obtain ⟨cp25_0, cp25_1, cp25_2, fp25_0, fp25_1, fp25_2⟩ := box3 Xp_25.out; have lp25 := heap_lt Xp_25.out
                  obtain ⟨cr25_0, cr25_1, cr25_2, fr25_0, fr25_1, fr25_2⟩ := box3 Xr_25.out; have lr25 := heap_lt Xr_25.out
                  obtain ⟨co25_0, co25_1, co25_2, fo25_0, fo25_1, fo25_2⟩ := box3 Xo_25.out; have lo25 := heap_lt Xo_25.out
                  obtain ⟨clit25_0, clit25_1, clit25_2, clit25_3, flit25_0, flit25_1, flit25_2, flit25_3⟩ := box4 Xlit_25.out; have llit25 := heap_lt Xlit_25.out
                  obtain ⟨cf025_0, cf025_1, ff025_0, ff025_1⟩ := box2P Xf0_25.out; have lf025 := heap_lt Xf0_25.out
                  obtain ⟨cf125_0, cf125_1, ff125_0, ff125_1⟩ := box2P Xf1_25.out; have lf125 := heap_lt Xf1_25.out
                  have S25 : w.heap.size ≤ w25.heap.size := (by omega)
                  clear cp24_0 cp24_1 cp24_2 fp24_0 fp24_1 fp24_2 cr24_0 cr24_1 cr24_2 fr24_0 fr24_1 fr24_2 co24_0 co24_1 co24_2 fo24_0 fo24_1 fo24_2 clit24_0 clit24_1 clit24_2 clit24_3 flit24_0 flit24_1 flit24_2 flit24_3 cf024_0 cf024_1 ff024_0 ff024_1
                  have HE : Hid (ParEnd text none) := Lib.hid (by have h9 := HPE.out; rw [resP_bad HP2.out HN2.out] at h9; exact h9)
                  go_wp2_with (fail)
                  refine bodyPost_ret (v := .tuple #[.agg #[.int .i64 0, .int .i64 0, .int .i64 0], .bool false]) (by simp [results, Tryd.results6, go_sem, cr25_0, cr25_1, cr25_2, lr25]) rfl ⟨none, rfl, HE.out, (below_setAt (below_setAt (below_setAt B25.out (w.heap.size) 0 (by first | omega | (simp only [szA, szS, szD, World.heap_drewN] at * <;> omega)) (.int .i64 0)) (w.heap.size) 1 (by first | omega | (simp only [szA, szS, szD, World.heap_drewN] at * <;> omega)) (.int .i64 0)) (w.heap.size) 2 (by first | omega | (simp only [szA, szS, szD, World.heap_drewN] at * <;> omega)) (.int .i64 0))⟩
                · have HN2 := Lib.hid hn2; clear hn2
                  go_wp2_with (fail)
                  refine (parseNumber_calls p2 _ (HL.out.below (Below.alloc B24.out (by first | omega | (simp only [szA, szS, szD, World.heap_drewN] at * <;> omega)) _))).mono ?_
                  rw [HN2.out]
                  rintro e w25 ⟨rfl, hb⟩
                  have B25 := Lib.hid (Below.trans (Below.alloc B24.out (by first | omega | (simp only [szA, szS, szD, World.heap_drewN] at * <;> omega)) _) (hb.mono (by first | omega | (simp only [szA, szS, szD, World.heap_drewN] at * <;> omega))) : Below w.heap.size w w25)
                  have Z25 := hb.size
                  have N25 : w24.heap.size + 1 ≤ w25.heap.size := (by first | with_reducible exact Z25 | (simp only [szA, szS, szD] at Z25; omega))
                  clear Z25
                  have Xp_25 := Lib.hid (below_at hb (heap_up Xp_24.out))
                  have Xr_25 := Lib.hid (below_at hb (heap_up Xr_24.out))
                  have Xo_25 := Lib.hid (below_at hb (heap_up Xo_24.out))
                  have Xlit_25 := Lib.hid (below_at hb (heap_up Xlit_24.out))
                  have Xf0_25 := Lib.hid (below_at hb (heap_up Xf0_24.out))
                  have Xf1_25 : Hid (w25.heap[w24.heap.size]? = some (.cells #[.bool true, .pointer (some ⟨w21.heap.size, 2, none⟩)] 50 (0, 0))) := below_at hb (heap_at' (n := w24.heap.size) (by first | omega | (simp only [szA, szS, szD, World.heap_drewN] at * <;> omega)))
                  have Oz_25 := Lib.hid ((Oz_24.out.alloc _).kept hb)
                  clear hb
                  obtain ⟨cp25_0, cp25_1, cp25_2, fp25_0, fp25_1, fp25_2⟩ := box3 Xp_25.out; have lp25 := heap_lt Xp_25.out
                  obtain ⟨cr25_0, cr25_1, cr25_2, fr25_0, fr25_1, fr25_2⟩ := box3 Xr_25.out; have lr25 := heap_lt Xr_25.out
                  obtain ⟨co25_0, co25_1, co25_2, fo25_0, fo25_1, fo25_2⟩ := box3 Xo_25.out; have lo25 := heap_lt Xo_25.out
                  obtain ⟨clit25_0, clit25_1, clit25_2, clit25_3, flit25_0, flit25_1, flit25_2, flit25_3⟩ := box4 Xlit_25.out; have llit25 := heap_lt Xlit_25.out
                  obtain ⟨cf025_0, cf025_1, ff025_0, ff025_1⟩ := box2P Xf0_25.out; have lf025 := heap_lt Xf0_25.out
                  obtain ⟨cf125_0, cf125_1, ff125_0, ff125_1⟩ := box2P Xf1_25.out; have lf125 := heap_lt Xf1_25.out
                  have S25 : w.heap.size ≤ w25.heap.size := (by omega)
                  clear cp24_0 cp24_1 cp24_2 fp24_0 fp24_1 fp24_2 cr24_0 cr24_1 cr24_2 fr24_0 fr24_1 fr24_2 co24_0 co24_1 co24_2 fo24_0 fo24_1 fo24_2 clit24_0 clit24_1 clit24_2 clit24_3 flit24_0 flit24_1 flit24_2 flit24_3 cf024_0 cf024_1 ff024_0 ff024_1
                  have nof1 : w24.heap.size ≠ w21.heap.size := by omega
                  have nog1 := nof1.symm
                  by_cases h2 : m2 = 1
                  · subst h2
                    go_wp2_with (fail)
                    obtain ⟨w26, hw⟩ : ∃ x : World, x = (w25.setCell ⟨w21.heap.size, 2, none⟩ (.int .i64 n2)) := ⟨_, rfl⟩
                    have B26 := Lib.hid (show Below w.heap.size w w26 by rw [hw]; exact (below_setAt B25.out (w21.heap.size) 2 (by first | omega | (simp only [szA, szS, szD, World.heap_drewN] at * <;> omega)) (.int .i64 n2)))
                    have N26 : w25.heap.size ≤ w26.heap.size := (by rw [hw]; simp only [szS, szA]; omega)
                    have Oz_26 := Lib.hid (show Own w.heap.size 9 1 encZ w26 (.slice (some ⟨zb, 0, none⟩) ws.length ws.length) ws by rw [hw]; exact (Oz_25.out.setB (w21.heap.size) 2 Xo_25.out (by decide) (.int .i64 n2)))
                    have Xp_26 := Lib.hid (show w26.heap[w20.heap.size]? = some (.cells #[.string s, .bool true, .bool true] 48 (0, 0)) by rw [hw]; exact (set_off (a := ⟨w21.heap.size, 2, none⟩) Xp_25.out (by first | omega | (simp only [szA, szS, szD, World.heap_drewN] at * <;> omega)) (.int .i64 n2)))
                    have Xr_26 := Lib.hid (show w26.heap[w.heap.size]? = some (.cells #[.int .i64 0, .int .i64 0, .int .i64 0] 23 (0, 0)) by rw [hw]; exact (set_off (a := ⟨w21.heap.size, 2, none⟩) Xr_25.out (by first | omega | (simp only [szA, szS, szD, World.heap_drewN] at * <;> omega)) (.int .i64 n2)))
                    have Xo_26 := Lib.hid (show w26.heap[w21.heap.size]? = some (.cells #[.int .i64 (k : Int), .int .i64 n1, .int .i64 n2] 23 (0, 0)) by rw [hw]; exact (set_at (a := ⟨w21.heap.size, 2, none⟩) Xo_25.out rfl rfl (.int .i64 n2)))
                    have Xlit_26 := Lib.hid (show w26.heap[w21.heap.size + 1]? = some (.cells #[.bool true, .pointer (some ⟨w21.heap.size, 1, none⟩), .bool true, .pointer (some ⟨w21.heap.size, 2, none⟩)] 50 (0, 0)) by rw [hw]; exact (set_off (a := ⟨w21.heap.size, 2, none⟩) Xlit_25.out (by first | omega | (simp only [szA, szS, szD, World.heap_drewN] at * <;> omega)) (.int .i64 n2)))
                    have Xf0_26 := Lib.hid (show w26.heap[w22.heap.size]? = some (.cells #[.bool true, .pointer (some ⟨w21.heap.size, 1, none⟩)] 50 (0, 0)) by rw [hw]; exact (set_off (a := ⟨w21.heap.size, 2, none⟩) Xf0_25.out (by first | omega | (simp only [szA, szS, szD, World.heap_drewN] at * <;> omega)) (.int .i64 n2)))
                    have Xf1_26 := Lib.hid (show w26.heap[w24.heap.size]? = some (.cells #[.bool true, .pointer (some ⟨w21.heap.size, 2, none⟩)] 50 (0, 0)) by rw [hw]; exact (set_off (a := ⟨w21.heap.size, 2, none⟩) Xf1_25.out (by first | omega | (simp only [szA, szS, szD, World.heap_drewN] at * <;> omega)) (.int .i64 n2)))
                    have Q26 := Lib.hid (show w26.heap.size = w25.heap.size by rw [hw]; simp only [szS, szA])
                    have HW26 := Lib.hid hw; clear hw
                    obtain ⟨cp26_0, cp26_1, cp26_2, fp26_0, fp26_1, fp26_2⟩ := box3 Xp_26.out; have lp26 := heap_lt Xp_26.out
                    obtain ⟨cr26_0, cr26_1, cr26_2, fr26_0, fr26_1, fr26_2⟩ := box3 Xr_26.out; have lr26 := heap_lt Xr_26.out
                    obtain ⟨co26_0, co26_1, co26_2, fo26_0, fo26_1, fo26_2⟩ := box3 Xo_26.out; have lo26 := heap_lt Xo_26.out
                    obtain ⟨clit26_0, clit26_1, clit26_2, clit26_3, flit26_0, flit26_1, flit26_2, flit26_3⟩ := box4 Xlit_26.out; have llit26 := heap_lt Xlit_26.out
                    obtain ⟨cf026_0, cf026_1, ff026_0, ff026_1⟩ := box2P Xf0_26.out; have lf026 := heap_lt Xf0_26.out
                    obtain ⟨cf126_0, cf126_1, ff126_0, ff126_1⟩ := box2P Xf1_26.out; have lf126 := heap_lt Xf1_26.out
                    have S26 : w.heap.size ≤ w26.heap.size := (by omega)
                    rw [← HW26.out]
                    clear cp25_0 cp25_1 cp25_2 fp25_0 fp25_1 fp25_2 cr25_0 cr25_1 cr25_2 fr25_0 fr25_1 fr25_2 co25_0 co25_1 co25_2 fo25_0 fo25_1 fo25_2 clit25_0 clit25_1 clit25_2 clit25_3 flit25_0 flit25_1 flit25_2 flit25_3 cf025_0 cf025_1 ff025_0 ff025_1 cf125_0 cf125_1 ff125_0 ff125_1
                    rw [rounds_succ]
                    have HE : Hid (ParEnd text (some ((k : Int), n1, n2))) := Lib.hid (by have h9 := HPE.out; rw [resP_2 HA.out (by rw [HDL.out]; omega) HP1.out HP2.out HN1.out HN2.out] at h9; exact h9)
                    have ne_r_o : w.heap.size ≠ w21.heap.size := by omega
                    have nf_r_o := ne_r_o.symm
                    go_wp2_with (fail)
                    refine bodyPost_ret (v := .tuple #[.agg #[.int .i64 (k : Int), .int .i64 n1, .int .i64 n2], .bool true]) (by simp [results, Tryd.results6, go_sem, cr26_0, cr26_1, cr26_2, lr26, co26_0, co26_1, co26_2, lo26, ne_r_o, nf_r_o]) rfl ⟨some ((k : Int), n1, n2), rfl, HE.out, (below_setAt (below_setAt (below_setAt B26.out (w.heap.size) 0 (by first | omega | (simp only [szA, szS, szD, World.heap_drewN] at * <;> omega)) (.int .i64 (k : Int))) (w.heap.size) 1 (by first | omega | (simp only [szA, szS, szD, World.heap_drewN] at * <;> omega)) (.int .i64 n1)) (w.heap.size) 2 (by first | omega | (simp only [szA, szS, szD, World.heap_drewN] at * <;> omega)) (.int .i64 n2))⟩
                  · obtain ⟨m3, hm3⟩ : ∃ m, m2 - 1 = m := ⟨_, rfl⟩
                    have v1 : decide (0 < (m3 : Int)) = true := decide_eq_true (by omega)
                    have v2 : 0 < m3 := by omega
                    have v3 : (0 : Int) < (m3 : Int) := by omega
                    go_wp2_with (fail)
                    obtain ⟨w26, hw⟩ : ∃ x : World, x = (w25.setCell ⟨w21.heap.size, 2, none⟩ (.int .i64 n2)) := ⟨_, rfl⟩
                    have B26 := Lib.hid (show Below w.heap.size w w26 by rw [hw]; exact (below_setAt B25.out (w21.heap.size) 2 (by first | omega | (simp only [szA, szS, szD, World.heap_drewN] at * <;> omega)) (.int .i64 n2)))
                    have N26 : w25.heap.size ≤ w26.heap.size := (by rw [hw]; simp only [szS, szA]; omega)
                    have Oz_26 := Lib.hid (show Own w.heap.size 9 1 encZ w26 (.slice (some ⟨zb, 0, none⟩) ws.length ws.length) ws by rw [hw]; exact (Oz_25.out.setB (w21.heap.size) 2 Xo_25.out (by decide) (.int .i64 n2)))
                    have Xp_26 := Lib.hid (show w26.heap[w20.heap.size]? = some (.cells #[.string s, .bool true, .bool true] 48 (0, 0)) by rw [hw]; exact (set_off (a := ⟨w21.heap.size, 2, none⟩) Xp_25.out (by first | omega | (simp only [szA, szS, szD, World.heap_drewN] at * <;> omega)) (.int .i64 n2)))
                    have Xr_26 := Lib.hid (show w26.heap[w.heap.size]? = some (.cells #[.int .i64 0, .int .i64 0, .int .i64 0] 23 (0, 0)) by rw [hw]; exact (set_off (a := ⟨w21.heap.size, 2, none⟩) Xr_25.out (by first | omega | (simp only [szA, szS, szD, World.heap_drewN] at * <;> omega)) (.int .i64 n2)))
                    have Xo_26 := Lib.hid (show w26.heap[w21.heap.size]? = some (.cells #[.int .i64 (k : Int), .int .i64 n1, .int .i64 n2] 23 (0, 0)) by rw [hw]; exact (set_at (a := ⟨w21.heap.size, 2, none⟩) Xo_25.out rfl rfl (.int .i64 n2)))
                    have Xlit_26 := Lib.hid (show w26.heap[w21.heap.size + 1]? = some (.cells #[.bool true, .pointer (some ⟨w21.heap.size, 1, none⟩), .bool true, .pointer (some ⟨w21.heap.size, 2, none⟩)] 50 (0, 0)) by rw [hw]; exact (set_off (a := ⟨w21.heap.size, 2, none⟩) Xlit_25.out (by first | omega | (simp only [szA, szS, szD, World.heap_drewN] at * <;> omega)) (.int .i64 n2)))
                    have Xf0_26 := Lib.hid (show w26.heap[w22.heap.size]? = some (.cells #[.bool true, .pointer (some ⟨w21.heap.size, 1, none⟩)] 50 (0, 0)) by rw [hw]; exact (set_off (a := ⟨w21.heap.size, 2, none⟩) Xf0_25.out (by first | omega | (simp only [szA, szS, szD, World.heap_drewN] at * <;> omega)) (.int .i64 n2)))
                    have Xf1_26 := Lib.hid (show w26.heap[w24.heap.size]? = some (.cells #[.bool true, .pointer (some ⟨w21.heap.size, 2, none⟩)] 50 (0, 0)) by rw [hw]; exact (set_off (a := ⟨w21.heap.size, 2, none⟩) Xf1_25.out (by first | omega | (simp only [szA, szS, szD, World.heap_drewN] at * <;> omega)) (.int .i64 n2)))
                    have Q26 := Lib.hid (show w26.heap.size = w25.heap.size by rw [hw]; simp only [szS, szA])
                    have HW26 := Lib.hid hw; clear hw
                    obtain ⟨cp26_0, cp26_1, cp26_2, fp26_0, fp26_1, fp26_2⟩ := box3 Xp_26.out; have lp26 := heap_lt Xp_26.out
                    obtain ⟨cr26_0, cr26_1, cr26_2, fr26_0, fr26_1, fr26_2⟩ := box3 Xr_26.out; have lr26 := heap_lt Xr_26.out
                    obtain ⟨co26_0, co26_1, co26_2, fo26_0, fo26_1, fo26_2⟩ := box3 Xo_26.out; have lo26 := heap_lt Xo_26.out
                    obtain ⟨clit26_0, clit26_1, clit26_2, clit26_3, flit26_0, flit26_1, flit26_2, flit26_3⟩ := box4 Xlit_26.out; have llit26 := heap_lt Xlit_26.out
                    obtain ⟨cf026_0, cf026_1, ff026_0, ff026_1⟩ := box2P Xf0_26.out; have lf026 := heap_lt Xf0_26.out
                    obtain ⟨cf126_0, cf126_1, ff126_0, ff126_1⟩ := box2P Xf1_26.out; have lf126 := heap_lt Xf1_26.out
                    have S26 : w.heap.size ≤ w26.heap.size := (by omega)
                    rw [← HW26.out]
                    clear cp25_0 cp25_1 cp25_2 fp25_0 fp25_1 fp25_2 cr25_0 cr25_1 cr25_2 fr25_0 fr25_1 fr25_2 co25_0 co25_1 co25_2 fo25_0 fo25_1 fo25_2 clit25_0 clit25_1 clit25_2 clit25_3 flit25_0 flit25_1 flit25_2 flit25_3 cf025_0 cf025_1 ff025_0 ff025_1 cf125_0 cf125_1 ff125_0 ff125_1
                    rw [rounds_succ]
                    have HE : Hid (ParEnd text none) := Lib.hid (by have h9 := HPE.out; rw [resP_len2 HA.out (by rw [HDL.out]; omega)] at h9; exact h9)
                    go_wp2_with (fail)
                    refine bodyPost_ret (v := .tuple #[.agg #[.int .i64 0, .int .i64 0, .int .i64 0], .bool false]) (by simp [results, Tryd.results6, go_sem, cr26_0, cr26_1, cr26_2, lr26]) rfl ⟨none, rfl, HE.out, (below_setAt (below_setAt (below_setAt B26.out (w.heap.size) 0 (by first | omega | (simp only [szA, szS, szD, World.heap_drewN] at * <;> omega)) (.int .i64 0)) (w.heap.size) 1 (by first | omega | (simp only [szA, szS, szD, World.heap_drewN] at * <;> omega)) (.int .i64 0)) (w.heap.size) 2 (by first | omega | (simp only [szA, szS, szD, World.heap_drewN] at * <;> omega)) (.int .i64 0))⟩
      · have q1 := str_ne he
        have HNE := Lib.hid he; clear he
        go_wp2_with (fail)
        have hN0 : w20.heap.size + 1 ≤ (w20.alloc (.cells #[.string s, .bool bo, .bool br] 48)).heap.size := (by first | omega | (simp only [szA, szS, szD, World.heap_drewN] at * <;> omega))
        have hzl20 : zb < w20.heap.size + 1 := by omega
        have c0_0 : (w20.alloc (.cells #[.string s, .bool bo, .bool br] 48)).drew.cell? ⟨zb, 0, none⟩ = some (.string x0) := (zrow_cell ((Oz_20.out.alloc _).row encZ_len) HX0.out).1
        have hw0 : 0 < ws.length := hw1
        refine wp_region_L [⟨0, false, [], fun _ v _ => v = .pointer (some ⟨w20.heap.size, 0, none⟩)⟩, ⟨1, false, [0], fun _ v _ => v = .string s⟩, ⟨2, false, [], fun _ v _ => v = .slice (some ⟨zb, 0, none⟩) ws.length ws.length⟩, ⟨3, false, [2], fun _ v _ => v = .pointer (some ⟨zb, 0, none⟩)⟩, ⟨4, false, [2, 3], fun _ v _ => v = .string x0⟩, ⟨5, false, [0, 1, 2, 3, 4], fun _ v _ => v = .bool true⟩] [(0, some 25), (1, some 26), (2, some 27), (3, some 28), (4, some 29), (5, some 30)] (fun _ w' => Below w.heap.size w w' ∧ w20.heap.size + 1 ≤ w'.heap.size ∧ w'.heap[w20.heap.size]? = some (.cells #[.string s, .bool bo, .bool br] 48 (0, 0)) ∧ w'.heap[w.heap.size]? = some (.cells #[.int .i64 0, .int .i64 0, .int .i64 0] 23 (0, 0)) ∧ Own w.heap.size 9 1 encZ w' (.slice (some ⟨zb, 0, none⟩) ws.length ws.length) ws ∧ w'.cell? ⟨zb, 0, none⟩ = some (.string x0)) (fun _ _ _ => True) (by kernel_rfl) (by rfl) (by kernel_rfl) (by kernel_rfl) ⟨((Below.alloc B20.out (by first | omega | (simp only [szA, szS, szD, World.heap_drewN] at * <;> omega)) _)).drew, hN0, (heap_drew (heap_at' (n := w20.heap.size) (by first | omega | (simp only [szA, szS, szD, World.heap_drewN] at * <;> omega)))), (heap_drew (heap_up Xr_20.out)), (Oz_20.out.alloc _), c0_0⟩ (GoalsL.cons ?_ (GoalsL.cons ?_ (GoalsL.cons ?_ (GoalsL.cons ?_ (GoalsL.cons ?_ (GoalsL.cons ?_ (GoalsL.nil))))))) ?_
        · refine GoalL.mk0 (by rfl) ?_; rintro f u wq hf ⟨hA, hN, x_p, x_r, o_z, c_0⟩ hD K hK; clear hD; simp only [put9] at hK ⊢
          refine Closed.mk ?_; go_simp
          exact hK.out _ _ ⟨hA, hN, x_p, x_r, o_z, c_0⟩ trivial rfl
        · refine GoalL.mk0 (by rfl) ?_; rintro f u wq hf ⟨hA, hN, x_p, x_r, o_z, c_0⟩ hD K hK; have e0 : u 0 = _ := hD.1; clear hD; simp only [put9, e0] at hK ⊢
          obtain ⟨kp_0, kp_1, kp_2, fp_0, fp_1, fp_2⟩ := box3 x_p; refine Closed.mk ?_; go_simp
          exact hK.out _ _ ⟨hA, hN, x_p, x_r, o_z, c_0⟩ trivial rfl
        · refine GoalL.mk0 (by rfl) ?_; rintro f u wq hf ⟨hA, hN, x_p, x_r, o_z, c_0⟩ hD K hK; clear hD; simp only [put9] at hK ⊢
          refine Closed.mk ?_; go_simp
          exact hK.out _ _ ⟨hA, hN, x_p, x_r, o_z, c_0⟩ trivial rfl
        · refine GoalL.mk0 (by rfl) ?_; rintro f u wq hf ⟨hA, hN, x_p, x_r, o_z, c_0⟩ hD K hK; have e2 : u 2 = _ := hD.1; clear hD; simp only [put9, e2] at hK ⊢
          refine Closed.mk ?_; go_simp
          exact hK.out _ _ ⟨hA, hN, x_p, x_r, o_z, c_0⟩ trivial rfl
        · refine GoalL.mk0 (by rfl) ?_; rintro f u wq hf ⟨hA, hN, x_p, x_r, o_z, c_0⟩ hD K hK; have e2 : u 2 = _ := hD.1; have e3 : u 3 = _ := hD.2.1; clear hD; simp only [put9, e2, e3] at hK ⊢
          refine Closed.mk ?_; go_simp
          exact hK.out _ _ ⟨hA, hN, x_p, x_r, o_z, c_0⟩ trivial rfl
        · refine GoalL.mk0 (by rfl) ?_; rintro f u wq hf ⟨hA, hN, x_p, x_r, o_z, c_0⟩ hD K hK; have e0 : u 0 = _ := hD.1; have e1 : u 1 = _ := hD.2.1; have e2 : u 2 = _ := hD.2.2.1; have e3 : u 3 = _ := hD.2.2.2.1; have e4 : u 4 = _ := hD.2.2.2.2.1; clear hD; simp only [put9, e0, e1, e2, e3, e4] at hK ⊢
          refine Closed.mk ?_; go_simp
          exact hK.out _ _ ⟨hA, hN, x_p, x_r, o_z, c_0⟩ trivial rfl
        intro u w21 hC hD
        have hA := hC.1; have hN := hC.2.1; have x_p := hC.2.2.1; have x_r := hC.2.2.2.1; have o_z := hC.2.2.2.2.1; have c_0 := hC.2.2.2.2.2; clear hC
        have e0 : u 0 = _ := hD.1; have e1 : u 1 = _ := hD.2.1; have e2 : u 2 = _ := hD.2.2.1; have e3 : u 3 = _ := hD.2.2.2.1; have e4 : u 4 = _ := hD.2.2.2.2.1; have e5 : u 5 = _ := hD.2.2.2.2.2.1; clear hD
        have B21 := Lib.hid hA; have N21 := hN; have S21 := hA.size
        have Xp_21 := Lib.hid x_p; clear x_p
        have Xr_21 := Lib.hid x_r; clear x_r
        have Oz_21 := Lib.hid o_z; clear o_z
        obtain ⟨cp21_0, cp21_1, cp21_2, fp21_0, fp21_1, fp21_2⟩ := box3 Xp_21.out; have lp21 := heap_lt Xp_21.out
        obtain ⟨cr21_0, cr21_1, cr21_2, fr21_0, fr21_1, fr21_2⟩ := box3 Xr_21.out; have lr21 := heap_lt Xr_21.out
        clear hA hN
        simp only [put9, e0, e1, e2, e3, e4, e5]
        refine Closed.mk (wpAnyH_done (by kernel_rfl) ?_ _)
        clear cz0 hzl q1
        go_wp2_with (fail)
        go_roundw
        case rel => exact ⟨k + 1, by go_num, by omega, by omega, HKW.out.step (by rw [HX0.out, ← HW.out]; intro e; exact HNE.out (Option.some.inj e).symm), Oz_21.out, Xr_21.out, B21.out⟩
        case measure => (simp [intOf] <;> omega)
    · obtain rfl : k = 11 := by omega
      have d1 : decide (((11 : Nat) : Int) < 11) = false := rfl
      have HE : Hid (ParEnd text none) := Lib.hid (HKW.out.done (Nat.le_refl _) HWS.out)
      go_wp2_with (fail)
      refine bodyPost_ret (v := .tuple #[.agg #[.int .i64 0, .int .i64 0, .int .i64 0], .bool false]) (by simp [results, Tryd.results6, go_sem, cr20_0, cr20_1, cr20_2, lr20]) rfl ⟨none, rfl, HE.out, (below_setAt (below_setAt (below_setAt B20.out (w.heap.size) 0 (by first | omega | (simp only [szA, szS, szD, World.heap_drewN] at * <;> omega)) (.int .i64 0)) (w.heap.size) 1 (by first | omega | (simp only [szA, szS, szD, World.heap_drewN] at * <;> omega)) (.int .i64 0)) (w.heap.size) 2 (by first | omega | (simp only [szA, szS, szD, World.heap_drewN] at * <;> omega)) (.int .i64 0))⟩
end Go.Proofs.YthbnbofoefdneaaDoor
