/- FnExactCloseChan: the law's walk (made by exact.py). -/
import Derived.Test.YtpgiinklbnlloaaChanClose
namespace Go.Proofs.Ytpgiinklbnlloaa
open Go.RowKit
set_option linter.unusedSimpArgs false
set_option linter.unusedVariables false
set_option maxHeartbeats 8000000 in
theorem FnExactCloseChan_calls (v : Value) (c : ChanD) (w : World) (h : ChanRow w v c) :
    Calls Try.prog 12 #[v] w fun e w' => e = .returned (.bool true) ∧ Below w.heap.size w w' := by
  have HA := Lib.hid h
  obtain ⟨aA1, pA1, aA2, pA2, aA3, pA3, rfl, h⟩ := h
  clear h
  obtain ⟨r, y, b1, hr⟩ : ∃ (r : ChanD) (y : List Int) (b1 : Bool), closeC c = (r, y, b1) := ⟨_, _, _, rfl⟩
  have HR := Lib.hid hr; clear hr
  go_enter Try.func12, Try.ntmps12
  go_wp2_with (fail)
  refine (szChan_calls _ c 1048576 _ (ChanRow.below HA.out (Below.alloc (Below.refl _ _) (by first | omega | (simp only [szA, szS, szD, World.heap_drewN] at * <;> omega)) _)) (by omega) (by omega)).mono ?_
  rintro e w1 ⟨rfl, hb⟩
  have B1 := Lib.hid (Below.trans (Below.alloc (Below.refl _ _) (by first | omega | (simp only [szA, szS, szD, World.heap_drewN] at * <;> omega)) _) (hb.mono (by first | omega | (simp only [szA, szS, szD, World.heap_drewN] at * <;> omega))) : Below w.heap.size w w1); have Z1 := hb.size
  have N1 : w.heap.size + 1 ≤ w1.heap.size := (by first | exact Z1 | (simp only [szA, szD] at Z1; omega))
  clear Z1
  have XA_1 : Hid (w1.heap[w.heap.size]? = some (.cells #[.int .i64 c.room, .slice aA1 c.items.length pA1, .slice aA2 c.senders.length pA2, .slice aA3 c.getters.length pA3, .bool c.closed] 39 (0, 0))) := below_at hb (heap_at' (n := w.heap.size) (by first | omega | (simp only [szA, szS, szD, World.heap_drewN] at * <;> omega)))
  clear hb
  obtain ⟨cA10, cA11, cA12, cA13, cA14, fA10, fA11, fA12, fA13, fA14⟩ := box5 XA_1.out; have lA1 := heap_lt XA_1.out
  by_cases hsz : ((c.items.length + c.senders.length + c.getters.length : Nat) : Int) ≤ 1048576
  · rw [szF_pos hsz]
    have hsz2 : c.items.length + c.senders.length + c.getters.length ≤ 1048576 := by omega
    clear hsz
    obtain ⟨hrs, hys⟩ := close_small HR.out
    go_wp2_with (fail)
    refine (toChan_calls _ c _ (ChanRow.below HA.out B1.out) hsz2).mono ?_
    rintro e w2 ⟨vt, rfl, ho_t, hb⟩
    have B2 := Lib.hid (Below.trans B1.out (hb.mono (by first | omega | (simp only [szA, szS, szD, World.heap_drewN] at * <;> omega))) : Below w.heap.size w w2); have Z2 := hb.size
    have N2 : w1.heap.size ≤ w2.heap.size := (by first | exact Z2 | (simp only [szA, szD] at Z2; omega))
    clear Z2
    have XA_2 := Lib.hid (below_at hb XA_1.out)
    have Ot_2 := Lib.hid (ho_t.mono (lo' := w1.heap.size) (by first | omega | (simp only [szA, szS, szD, World.heap_drewN] at * <;> omega)) (Nat.le_refl _)); obtain ⟨at1, pt1, at2, pt2, at3, pt3, rfl, hx_t⟩ := ho_t; clear hx_t
    clear hb
    obtain ⟨cA20, cA21, cA22, cA23, cA24, fA20, fA21, fA22, fA23, fA24⟩ := box5 XA_2.out; have lA2 := heap_lt XA_2.out
    clear cA10 cA11 cA12 cA13 cA14 fA10 fA11 fA12 fA13 fA14
    go_wp2_with (fail)
    refine (sCloseChanO _ c r y b1 _ (Ot_2.out.row) hsz2 HR.out).mono ?_
    rintro e w3 ⟨vwr, vwy, rfl, ho_wr, ho_wy, hap, hb⟩
    have B3 := Lib.hid (Below.trans B2.out (hb.mono (by first | omega | (simp only [szA, szS, szD, World.heap_drewN] at * <;> omega))) : Below w.heap.size w w3); have Z3 := hb.size
    have N3 : w2.heap.size ≤ w3.heap.size := (by first | exact Z3 | (simp only [szA, szD] at Z3; omega))
    clear Z3
    have XA_3 := Lib.hid (below_at hb XA_2.out)
    have Ot_3 := Lib.hid (Ot_2.out.kept hb)
    have Owr_3 := Lib.hid (ho_wr.mono (lo' := w2.heap.size) (by first | omega | (simp only [szA, szS, szD, World.heap_drewN] at * <;> omega)) (Nat.le_refl _)); obtain ⟨awr1, pwr1, awr2, pwr2, awr3, pwr3, rfl, hx_wr⟩ := ho_wr; clear hx_wr
    have Owy_3 := Lib.hid (ho_wy.mono (lo' := w2.heap.size) (by first | omega | (simp only [szA, szS, szD, World.heap_drewN] at * <;> omega)) (Nat.le_refl _)); obtain ⟨awy, pwy, rfl, hx_wy⟩ := ho_wy; clear hx_wy
    clear hb
    obtain ⟨cA30, cA31, cA32, cA33, cA34, fA30, fA31, fA32, fA33, fA34⟩ := box5 XA_3.out; have lA3 := heap_lt XA_3.out
    clear cA20 cA21 cA22 cA23 cA24 fA20 fA21 fA22 fA23 fA24
    have FRw := Lib.hid hap; clear hap
    go_wp2_with (fail)
    refine (toChan_calls _ c _ (ChanRow.below HA.out (Below.alloc B3.out (by first | omega | (simp only [szA, szS, szD, World.heap_drewN] at * <;> omega)) _)) hsz2).mono ?_
    rintro e w4 ⟨vx, rfl, ho_x, hb⟩
    have B4 := Lib.hid (Below.trans (Below.alloc B3.out (by first | omega | (simp only [szA, szS, szD, World.heap_drewN] at * <;> omega)) _) (hb.mono (by first | omega | (simp only [szA, szS, szD, World.heap_drewN] at * <;> omega))) : Below w.heap.size w w4); have Z4 := hb.size
    have N4 : w3.heap.size + 1 ≤ w4.heap.size := (by first | exact Z4 | (simp only [szA, szD] at Z4; omega))
    clear Z4
    have XA_4 := Lib.hid (below_at hb (heap_up XA_3.out))
    have Xwr_4 : Hid (w4.heap[w3.heap.size]? = some (.cells #[.int .i64 r.room, .slice awr1 r.items.length pwr1, .slice awr2 r.senders.length pwr2, .slice awr3 r.getters.length pwr3, .bool r.closed] 25 (0, 0))) := below_at hb (heap_at' (n := w3.heap.size) (by first | omega | (simp only [szA, szS, szD, World.heap_drewN] at * <;> omega)))
    have Owr_4 := Lib.hid ((Owr_3.out.alloc _).kept hb)
    have Owy_4 := Lib.hid ((Owy_3.out.alloc _).kept hb)
    have Ox_4 := Lib.hid (ho_x.mono (lo' := w3.heap.size + 1) (by first | omega | (simp only [szA, szS, szD, World.heap_drewN] at * <;> omega)) (Nat.le_refl _)); obtain ⟨ax1, px1, ax2, px2, ax3, px3, rfl, hx_x⟩ := ho_x; clear hx_x
    clear hb
    obtain ⟨cA40, cA41, cA42, cA43, cA44, fA40, fA41, fA42, fA43, fA44⟩ := box5 XA_4.out; have lA4 := heap_lt XA_4.out
    obtain ⟨cwr40, cwr41, cwr42, cwr43, cwr44, fwr40, fwr41, fwr42, fwr43, fwr44⟩ := box5 Xwr_4.out; have lwr4 := heap_lt Xwr_4.out
    clear cA30 cA31 cA32 cA33 cA34 fA30 fA31 fA32 fA33 fA34
    go_wp2_with (fail)
    refine (CloseChanO _ c r y b1 _ ((Ox_4.out.alloc _).row) hsz2 HR.out).mono ?_
    rintro e w5 ⟨vgr, vgy, rfl, ho_gr, ho_gy, hap, hb⟩
    have B5 := Lib.hid (Below.trans (Below.alloc B4.out (by first | omega | (simp only [szA, szS, szD, World.heap_drewN] at * <;> omega)) _) (hb.mono (by first | omega | (simp only [szA, szS, szD, World.heap_drewN] at * <;> omega))) : Below w.heap.size w w5); have Z5 := hb.size
    have N5 : w4.heap.size + 1 ≤ w5.heap.size := (by first | exact Z5 | (simp only [szA, szD] at Z5; omega))
    clear Z5
    have XA_5 := Lib.hid (below_at hb (heap_up XA_4.out))
    have Xwr_5 := Lib.hid (below_at hb (heap_up Xwr_4.out))
    have Xx_5 : Hid (w5.heap[w4.heap.size]? = some (.cells #[.int .i64 c.room, .slice ax1 c.items.length px1, .slice ax2 c.senders.length px2, .slice ax3 c.getters.length px3, .bool c.closed] 25 (0, 0))) := below_at hb (heap_at' (n := w4.heap.size) (by first | omega | (simp only [szA, szS, szD, World.heap_drewN] at * <;> omega)))
    have Owr_5 := Lib.hid ((Owr_4.out.alloc _).kept hb)
    have Owy_5 := Lib.hid ((Owy_4.out.alloc _).kept hb)
    have Ox_5 := Lib.hid ((Ox_4.out.alloc _).kept hb)
    have Ogr_5 := Lib.hid (ho_gr.mono (lo' := w4.heap.size + 1) (by first | omega | (simp only [szA, szS, szD, World.heap_drewN] at * <;> omega)) (Nat.le_refl _)); obtain ⟨agr1, pgr1, agr2, pgr2, agr3, pgr3, rfl, hx_gr⟩ := ho_gr; clear hx_gr
    have Ogy_5 := Lib.hid (ho_gy.mono (lo' := w4.heap.size + 1) (by first | omega | (simp only [szA, szS, szD, World.heap_drewN] at * <;> omega)) (Nat.le_refl _)); obtain ⟨agy, pgy, rfl, hx_gy⟩ := ho_gy; clear hx_gy
    clear hb
    obtain ⟨cA50, cA51, cA52, cA53, cA54, fA50, fA51, fA52, fA53, fA54⟩ := box5 XA_5.out; have lA5 := heap_lt XA_5.out
    obtain ⟨cwr50, cwr51, cwr52, cwr53, cwr54, fwr50, fwr51, fwr52, fwr53, fwr54⟩ := box5 Xwr_5.out; have lwr5 := heap_lt Xwr_5.out
    obtain ⟨cx50, cx51, cx52, cx53, cx54, fx50, fx51, fx52, fx53, fx54⟩ := box5 Xx_5.out; have lx5 := heap_lt Xx_5.out
    clear cA40 cA41 cA42 cA43 cA44 fA40 fA41 fA42 fA43 fA44 cwr40 cwr41 cwr42 cwr43 cwr44 fwr40 fwr41 fwr42 fwr43 fwr44
    have FRg := Lib.hid hap; clear hap
    go_wp2_with (fail)
    refine (eqChan_calls _ _ r r _ ((Ogr_5.out.alloc _).row) ((Owr_5.out.alloc _).row)).mono ?_
    rw [decide_eq_true rfl]
    rintro e w6 ⟨rfl, hb⟩
    have B6 := Lib.hid (Below.trans (Below.alloc B5.out (by first | omega | (simp only [szA, szS, szD, World.heap_drewN] at * <;> omega)) _) (hb.mono (by first | omega | (simp only [szA, szS, szD, World.heap_drewN] at * <;> omega))) : Below w.heap.size w w6); have Z6 := hb.size
    have N6 : w5.heap.size + 1 ≤ w6.heap.size := (by first | exact Z6 | (simp only [szA, szD] at Z6; omega))
    clear Z6
    have XA_6 := Lib.hid (below_at hb (heap_up XA_5.out))
    have Xwr_6 := Lib.hid (below_at hb (heap_up Xwr_5.out))
    have Xx_6 := Lib.hid (below_at hb (heap_up Xx_5.out))
    have Xgr_6 : Hid (w6.heap[w5.heap.size]? = some (.cells #[.int .i64 r.room, .slice agr1 r.items.length pgr1, .slice agr2 r.senders.length pgr2, .slice agr3 r.getters.length pgr3, .bool r.closed] 25 (0, 0))) := below_at hb (heap_at' (n := w5.heap.size) (by first | omega | (simp only [szA, szS, szD, World.heap_drewN] at * <;> omega)))
    have Owr_6 := Lib.hid ((Owr_5.out.alloc _).kept hb)
    have Owy_6 := Lib.hid ((Owy_5.out.alloc _).kept hb)
    have Ox_6 := Lib.hid ((Ox_5.out.alloc _).kept hb)
    have Ogr_6 := Lib.hid ((Ogr_5.out.alloc _).kept hb)
    have Ogy_6 := Lib.hid ((Ogy_5.out.alloc _).kept hb)
    clear hb
    obtain ⟨cA60, cA61, cA62, cA63, cA64, fA60, fA61, fA62, fA63, fA64⟩ := box5 XA_6.out; have lA6 := heap_lt XA_6.out
    obtain ⟨cwr60, cwr61, cwr62, cwr63, cwr64, fwr60, fwr61, fwr62, fwr63, fwr64⟩ := box5 Xwr_6.out; have lwr6 := heap_lt Xwr_6.out
    obtain ⟨cx60, cx61, cx62, cx63, cx64, fx60, fx61, fx62, fx63, fx64⟩ := box5 Xx_6.out; have lx6 := heap_lt Xx_6.out
    obtain ⟨cgr60, cgr61, cgr62, cgr63, cgr64, fgr60, fgr61, fgr62, fgr63, fgr64⟩ := box5 Xgr_6.out; have lgr6 := heap_lt Xgr_6.out
    clear cA50 cA51 cA52 cA53 cA54 fA50 fA51 fA52 fA53 fA54 cwr50 cwr51 cwr52 cwr53 cwr54 fwr50 fwr51 fwr52 fwr53 fwr54 cx50 cx51 cx52 cx53 cx54 fx50 fx51 fx52 fx53 fx54
    go_wp2_with (fail)
    refine (eqIntS_calls _ _ y y _ (Ogy_6.out.row) (Owy_6.out.row)).mono ?_
    rw [decide_eq_true rfl]
    rintro e w7 ⟨rfl, hb⟩
    have B7 := Lib.hid (Below.trans B6.out (hb.mono (by first | omega | (simp only [szA, szS, szD, World.heap_drewN] at * <;> omega))) : Below w.heap.size w w7); have Z7 := hb.size
    have N7 : w6.heap.size ≤ w7.heap.size := (by first | exact Z7 | (simp only [szA, szD] at Z7; omega))
    clear Z7
    have XA_7 := Lib.hid (below_at hb XA_6.out)
    have Xwr_7 := Lib.hid (below_at hb Xwr_6.out)
    have Xx_7 := Lib.hid (below_at hb Xx_6.out)
    have Xgr_7 := Lib.hid (below_at hb Xgr_6.out)
    have Owr_7 := Lib.hid (Owr_6.out.kept hb)
    have Owy_7 := Lib.hid (Owy_6.out.kept hb)
    have Ox_7 := Lib.hid (Ox_6.out.kept hb)
    have Ogr_7 := Lib.hid (Ogr_6.out.kept hb)
    have Ogy_7 := Lib.hid (Ogy_6.out.kept hb)
    clear hb
    obtain ⟨cA70, cA71, cA72, cA73, cA74, fA70, fA71, fA72, fA73, fA74⟩ := box5 XA_7.out; have lA7 := heap_lt XA_7.out
    obtain ⟨cwr70, cwr71, cwr72, cwr73, cwr74, fwr70, fwr71, fwr72, fwr73, fwr74⟩ := box5 Xwr_7.out; have lwr7 := heap_lt Xwr_7.out
    obtain ⟨cx70, cx71, cx72, cx73, cx74, fx70, fx71, fx72, fx73, fx74⟩ := box5 Xx_7.out; have lx7 := heap_lt Xx_7.out
    obtain ⟨cgr70, cgr71, cgr72, cgr73, cgr74, fgr70, fgr71, fgr72, fgr73, fgr74⟩ := box5 Xgr_7.out; have lgr7 := heap_lt Xgr_7.out
    clear cA60 cA61 cA62 cA63 cA64 fA60 fA61 fA62 fA63 fA64 cwr60 cwr61 cwr62 cwr63 cwr64 fwr60 fwr61 fwr62 fwr63 fwr64 cx60 cx61 cx62 cx63 cx64 fx60 fx61 fx62 fx63 fx64 cgr60 cgr61 cgr62 cgr63 cgr64 fgr60 fgr61 fgr62 fgr63 fgr64
    go_wp2_with (fail)
    go_region_held3 (fun w' => w'.cell? ⟨w4.heap.size, 0, none⟩ = some (.int .i64 c.room) ∧ w'.cell? ⟨w4.heap.size, 1, none⟩ = some (.slice ax1 c.items.length px1) ∧ w'.cell? ⟨w4.heap.size, 2, none⟩ = some (.slice ax2 c.senders.length px2) ∧ w'.cell? ⟨w4.heap.size, 3, none⟩ = some (.slice ax3 c.getters.length px3) ∧ w'.cell? ⟨w4.heap.size, 4, none⟩ = some (.bool c.closed) ∧ w'.cell? ⟨w.heap.size, 0, none⟩ = some (.int .i64 c.room) ∧ w'.cell? ⟨w.heap.size, 1, none⟩ = some (.slice aA1 c.items.length pA1) ∧ w'.cell? ⟨w.heap.size, 2, none⟩ = some (.slice aA2 c.senders.length pA2) ∧ w'.cell? ⟨w.heap.size, 3, none⟩ = some (.slice aA3 c.getters.length pA3) ∧ w'.cell? ⟨w.heap.size, 4, none⟩ = some (.bool c.closed)) (go_keep)
      (first
        | (go_at_call 25; refine (toChan_calls _ c _ (ChanRow.below HA.out B7.out.drew) hsz2).mono ?_; rintro e w8 ⟨vu, rfl, ho_u, hb⟩; have B8 := Lib.hid (Below.trans B7.out.drew (hb.mono (by first | omega | (simp only [szA, szS, szD, World.heap_drewN] at * <;> omega))) : Below w.heap.size w w8); have Z8 := hb.size; have N8 : w7.heap.size ≤ w8.heap.size := (by first | exact Z8 | (simp only [szA, szD] at Z8; omega)); clear Z8; have XA_8 := Lib.hid (below_at hb (heap_drew XA_7.out)); have Xwr_8 := Lib.hid (below_at hb (heap_drew Xwr_7.out)); have Xx_8 := Lib.hid (below_at hb (heap_drew Xx_7.out)); have Xgr_8 := Lib.hid (below_at hb (heap_drew Xgr_7.out)); have Owr_8 := Lib.hid ((Owr_7.out.drew).kept hb); have Owy_8 := Lib.hid ((Owy_7.out.drew).kept hb); have Ox_8 := Lib.hid ((Ox_7.out.drew).kept hb); have Ogr_8 := Lib.hid ((Ogr_7.out.drew).kept hb); have Ogy_8 := Lib.hid ((Ogy_7.out.drew).kept hb); have Ou_8 := Lib.hid (ho_u.mono (lo' := w7.heap.size) (by first | omega | (simp only [szA, szS, szD, World.heap_drewN] at * <;> omega)) (Nat.le_refl _)); obtain ⟨au1, pu1, au2, pu2, au3, pu3, rfl, hx_u⟩ := ho_u; clear hx_u; clear hb; obtain ⟨cA80, cA81, cA82, cA83, cA84, fA80, fA81, fA82, fA83, fA84⟩ := box5 XA_8.out; have lA8 := heap_lt XA_8.out; obtain ⟨cwr80, cwr81, cwr82, cwr83, cwr84, fwr80, fwr81, fwr82, fwr83, fwr84⟩ := box5 Xwr_8.out; have lwr8 := heap_lt Xwr_8.out; obtain ⟨cx80, cx81, cx82, cx83, cx84, fx80, fx81, fx82, fx83, fx84⟩ := box5 Xx_8.out; have lx8 := heap_lt Xx_8.out; obtain ⟨cgr80, cgr81, cgr82, cgr83, cgr84, fgr80, fgr81, fgr82, fgr83, fgr84⟩ := box5 Xgr_8.out; have lgr8 := heap_lt Xgr_8.out)
        | (go_at_call 16; refine (eqChan_calls _ _ c c _ (Ox_8.out.row) (Ou_8.out.row)).mono ?_; rw [decide_eq_true rfl]; rintro e w9 ⟨rfl, hb⟩; have B9 := Lib.hid (Below.trans B8.out (hb.mono (by first | omega | (simp only [szA, szS, szD, World.heap_drewN] at * <;> omega))) : Below w.heap.size w w9); have Z9 := hb.size; have N9 : w8.heap.size ≤ w9.heap.size := (by first | exact Z9 | (simp only [szA, szD] at Z9; omega)); clear Z9; have XA_9 := Lib.hid (below_at hb XA_8.out); have Xwr_9 := Lib.hid (below_at hb Xwr_8.out); have Xx_9 := Lib.hid (below_at hb Xx_8.out); have Xgr_9 := Lib.hid (below_at hb Xgr_8.out); have Owr_9 := Lib.hid (Owr_8.out.kept hb); have Owy_9 := Lib.hid (Owy_8.out.kept hb); have Ox_9 := Lib.hid (Ox_8.out.kept hb); have Ogr_9 := Lib.hid (Ogr_8.out.kept hb); have Ogy_9 := Lib.hid (Ogy_8.out.kept hb); have Ou_9 := Lib.hid (Ou_8.out.kept hb); clear hb; obtain ⟨cA90, cA91, cA92, cA93, cA94, fA90, fA91, fA92, fA93, fA94⟩ := box5 XA_9.out; have lA9 := heap_lt XA_9.out; obtain ⟨cwr90, cwr91, cwr92, cwr93, cwr94, fwr90, fwr91, fwr92, fwr93, fwr94⟩ := box5 Xwr_9.out; have lwr9 := heap_lt Xwr_9.out; obtain ⟨cx90, cx91, cx92, cx93, cx94, fx90, fx91, fx92, fx93, fx94⟩ := box5 Xx_9.out; have lx9 := heap_lt Xx_9.out; obtain ⟨cgr90, cgr91, cgr92, cgr93, cgr94, fgr90, fgr91, fgr92, fgr93, fgr94⟩ := box5 Xgr_9.out; have lgr9 := heap_lt Xgr_9.out)
      )
    clear cA70 cA71 cA72 cA73 cA74 fA70 fA71 fA72 fA73 fA74 cwr70 cwr71 cwr72 cwr73 cwr74 fwr70 fwr71 fwr72 fwr73 fwr74 cx70 cx71 cx72 cx73 cx74 fx70 fx71 fx72 fx73 fx74 cgr70 cgr71 cgr72 cgr73 cgr74 fgr70 fgr71 fgr72 fgr73 fgr74
    go_wp2_with (fail)
    refine (markChan_calls _ _ _ c (1) _ Ox_9.out (by omega) (by omega) (by omega)).mono ?_
    rintro e w10 ⟨rfl, ho, hs, ht⟩
    have B10 := Lib.hid (Below.trans B9.out (hs.below (by first | omega | (simp only [szA, szS, szD, World.heap_drewN] at * <;> omega)) (by first | omega | (simp only [szA, szS, szD, World.heap_drewN] at * <;> omega))) : Below w.heap.size w w10); have Z10 := hs.size
    have N10 : w9.heap.size ≤ w10.heap.size := (by first | exact Z10 | (simp only [szA, szD] at Z10; omega))
    clear Z10
    have XA_10 := Lib.hid (hs.box XA_9.out (by first | omega | (simp only [szA, szS, szD, World.heap_drewN] at * <;> omega)))
    have Xwr_10 := Lib.hid (hs.box Xwr_9.out (by first | omega | (simp only [szA, szS, szD, World.heap_drewN] at * <;> omega)))
    have Xx_10 := Lib.hid (hs.box Xx_9.out (by first | omega | (simp only [szA, szS, szD, World.heap_drewN] at * <;> omega)))
    have Xgr_10 := Lib.hid (hs.box Xgr_9.out (by first | omega | (simp only [szA, szS, szD, World.heap_drewN] at * <;> omega)))
    have Owr_10 := Lib.hid (Owr_9.out.span hs (by first | omega | (simp only [szA, szS, szD, World.heap_drewN] at * <;> omega)))
    have Owy_10 := Lib.hid (Owy_9.out.span hs (by first | omega | (simp only [szA, szS, szD, World.heap_drewN] at * <;> omega)))
    have Ox_10 := Lib.hid ho
    have Ogr_10 := Lib.hid (Ogr_9.out.span hs (by first | omega | (simp only [szA, szS, szD, World.heap_drewN] at * <;> omega)))
    have Ogy_10 := Lib.hid (Ogy_9.out.span hs (by first | omega | (simp only [szA, szS, szD, World.heap_drewN] at * <;> omega)))
    clear hs ho ht
    obtain ⟨cA100, cA101, cA102, cA103, cA104, fA100, fA101, fA102, fA103, fA104⟩ := box5 XA_10.out; have lA10 := heap_lt XA_10.out
    obtain ⟨cwr100, cwr101, cwr102, cwr103, cwr104, fwr100, fwr101, fwr102, fwr103, fwr104⟩ := box5 Xwr_10.out; have lwr10 := heap_lt Xwr_10.out
    obtain ⟨cx100, cx101, cx102, cx103, cx104, fx100, fx101, fx102, fx103, fx104⟩ := box5 Xx_10.out; have lx10 := heap_lt Xx_10.out
    obtain ⟨cgr100, cgr101, cgr102, cgr103, cgr104, fgr100, fgr101, fgr102, fgr103, fgr104⟩ := box5 Xgr_10.out; have lgr10 := heap_lt Xgr_10.out
    clear cA90 cA91 cA92 cA93 cA94 fA90 fA91 fA92 fA93 fA94 cwr90 cwr91 cwr92 cwr93 cwr94 fwr90 fwr91 fwr92 fwr93 fwr94 cx90 cx91 cx92 cx93 cx94 fx90 fx91 fx92 fx93 fx94 cgr90 cgr91 cgr92 cgr93 cgr94 fgr90 fgr91 fgr92 fgr93 fgr94
    go_wp2_with (fail)
    refine (eqChan_calls _ _ r r _ (Ogr_10.out.row) (Owr_10.out.row)).mono ?_
    rw [decide_eq_true rfl]
    rintro e w11 ⟨rfl, hb⟩
    have B11 := Lib.hid (Below.trans B10.out (hb.mono (by first | omega | (simp only [szA, szS, szD, World.heap_drewN] at * <;> omega))) : Below w.heap.size w w11); have Z11 := hb.size
    have N11 : w10.heap.size ≤ w11.heap.size := (by first | exact Z11 | (simp only [szA, szD] at Z11; omega))
    clear Z11
    have XA_11 := Lib.hid (below_at hb XA_10.out)
    have Xwr_11 := Lib.hid (below_at hb Xwr_10.out)
    have Xx_11 := Lib.hid (below_at hb Xx_10.out)
    have Xgr_11 := Lib.hid (below_at hb Xgr_10.out)
    have Owr_11 := Lib.hid (Owr_10.out.kept hb)
    have Owy_11 := Lib.hid (Owy_10.out.kept hb)
    have Ox_11 := Lib.hid (Ox_10.out.kept hb)
    have Ogr_11 := Lib.hid (Ogr_10.out.kept hb)
    have Ogy_11 := Lib.hid (Ogy_10.out.kept hb)
    clear hb
    obtain ⟨cA110, cA111, cA112, cA113, cA114, fA110, fA111, fA112, fA113, fA114⟩ := box5 XA_11.out; have lA11 := heap_lt XA_11.out
    obtain ⟨cwr110, cwr111, cwr112, cwr113, cwr114, fwr110, fwr111, fwr112, fwr113, fwr114⟩ := box5 Xwr_11.out; have lwr11 := heap_lt Xwr_11.out
    obtain ⟨cx110, cx111, cx112, cx113, cx114, fx110, fx111, fx112, fx113, fx114⟩ := box5 Xx_11.out; have lx11 := heap_lt Xx_11.out
    obtain ⟨cgr110, cgr111, cgr112, cgr113, cgr114, fgr110, fgr111, fgr112, fgr113, fgr114⟩ := box5 Xgr_11.out; have lgr11 := heap_lt Xgr_11.out
    clear cA100 cA101 cA102 cA103 cA104 fA100 fA101 fA102 fA103 fA104 cwr100 cwr101 cwr102 cwr103 cwr104 fwr100 fwr101 fwr102 fwr103 fwr104 cx100 cx101 cx102 cx103 cx104 fx100 fx101 fx102 fx103 fx104 cgr100 cgr101 cgr102 cgr103 cgr104 fgr100 fgr101 fgr102 fgr103 fgr104
    go_wp2_with (fail)
    refine (eqIntS_calls _ _ y y _ (Ogy_11.out.row) (Owy_11.out.row)).mono ?_
    rw [decide_eq_true rfl]
    rintro e w12 ⟨rfl, hb⟩
    have B12 := Lib.hid (Below.trans B11.out (hb.mono (by first | omega | (simp only [szA, szS, szD, World.heap_drewN] at * <;> omega))) : Below w.heap.size w w12); have Z12 := hb.size
    have N12 : w11.heap.size ≤ w12.heap.size := (by first | exact Z12 | (simp only [szA, szD] at Z12; omega))
    clear Z12
    have XA_12 := Lib.hid (below_at hb XA_11.out)
    have Xwr_12 := Lib.hid (below_at hb Xwr_11.out)
    have Xx_12 := Lib.hid (below_at hb Xx_11.out)
    have Xgr_12 := Lib.hid (below_at hb Xgr_11.out)
    have Owr_12 := Lib.hid (Owr_11.out.kept hb)
    have Owy_12 := Lib.hid (Owy_11.out.kept hb)
    have Ox_12 := Lib.hid (Ox_11.out.kept hb)
    have Ogr_12 := Lib.hid (Ogr_11.out.kept hb)
    have Ogy_12 := Lib.hid (Ogy_11.out.kept hb)
    clear hb
    obtain ⟨cA120, cA121, cA122, cA123, cA124, fA120, fA121, fA122, fA123, fA124⟩ := box5 XA_12.out; have lA12 := heap_lt XA_12.out
    obtain ⟨cwr120, cwr121, cwr122, cwr123, cwr124, fwr120, fwr121, fwr122, fwr123, fwr124⟩ := box5 Xwr_12.out; have lwr12 := heap_lt Xwr_12.out
    obtain ⟨cx120, cx121, cx122, cx123, cx124, fx120, fx121, fx122, fx123, fx124⟩ := box5 Xx_12.out; have lx12 := heap_lt Xx_12.out
    obtain ⟨cgr120, cgr121, cgr122, cgr123, cgr124, fgr120, fgr121, fgr122, fgr123, fgr124⟩ := box5 Xgr_12.out; have lgr12 := heap_lt Xgr_12.out
    clear cA110 cA111 cA112 cA113 cA114 fA110 fA111 fA112 fA113 fA114 cwr110 cwr111 cwr112 cwr113 cwr114 fwr110 fwr111 fwr112 fwr113 fwr114 cx110 cx111 cx112 cx113 cx114 fx110 fx111 fx112 fx113 fx114 cgr110 cgr111 cgr112 cgr113 cgr114 fgr110 fgr111 fgr112 fgr113 fgr114
    go_wp2_with (fail)
    refine (markChan_calls _ _ _ r (1) _ Ogr_12.out (by omega) (by omega) (by omega)).mono ?_
    rintro e w13 ⟨rfl, ho, hs, ht⟩
    have B13 := Lib.hid (Below.trans B12.out (hs.below (by first | omega | (simp only [szA, szS, szD, World.heap_drewN] at * <;> omega)) (by first | omega | (simp only [szA, szS, szD, World.heap_drewN] at * <;> omega))) : Below w.heap.size w w13); have Z13 := hs.size
    have N13 : w12.heap.size ≤ w13.heap.size := (by first | exact Z13 | (simp only [szA, szD] at Z13; omega))
    clear Z13
    have XA_13 := Lib.hid (hs.box XA_12.out (by first | omega | (simp only [szA, szS, szD, World.heap_drewN] at * <;> omega)))
    have Xwr_13 := Lib.hid (hs.box Xwr_12.out (by first | omega | (simp only [szA, szS, szD, World.heap_drewN] at * <;> omega)))
    have Xx_13 := Lib.hid (hs.box Xx_12.out (by first | omega | (simp only [szA, szS, szD, World.heap_drewN] at * <;> omega)))
    have Xgr_13 := Lib.hid (hs.box Xgr_12.out (by first | omega | (simp only [szA, szS, szD, World.heap_drewN] at * <;> omega)))
    have Owr_13 := Lib.hid (Owr_12.out.span hs (by first | omega | (simp only [szA, szS, szD, World.heap_drewN] at * <;> omega)))
    have Owy_13 := Lib.hid (Owy_12.out.span hs (by first | omega | (simp only [szA, szS, szD, World.heap_drewN] at * <;> omega)))
    have Ox_13 := Lib.hid (Ox_12.out.span hs (by first | omega | (simp only [szA, szS, szD, World.heap_drewN] at * <;> omega)))
    have Ogr_13 := Lib.hid ho
    have Ogy_13 := Lib.hid (Ogy_12.out.touch ht FRg.out)
    clear hs ho ht
    obtain ⟨cA130, cA131, cA132, cA133, cA134, fA130, fA131, fA132, fA133, fA134⟩ := box5 XA_13.out; have lA13 := heap_lt XA_13.out
    obtain ⟨cwr130, cwr131, cwr132, cwr133, cwr134, fwr130, fwr131, fwr132, fwr133, fwr134⟩ := box5 Xwr_13.out; have lwr13 := heap_lt Xwr_13.out
    obtain ⟨cx130, cx131, cx132, cx133, cx134, fx130, fx131, fx132, fx133, fx134⟩ := box5 Xx_13.out; have lx13 := heap_lt Xx_13.out
    obtain ⟨cgr130, cgr131, cgr132, cgr133, cgr134, fgr130, fgr131, fgr132, fgr133, fgr134⟩ := box5 Xgr_13.out; have lgr13 := heap_lt Xgr_13.out
    clear cA120 cA121 cA122 cA123 cA124 fA120 fA121 fA122 fA123 fA124 cwr120 cwr121 cwr122 cwr123 cwr124 fwr120 fwr121 fwr122 fwr123 fwr124 cx120 cx121 cx122 cx123 cx124 fx120 fx121 fx122 fx123 fx124 cgr120 cgr121 cgr122 cgr123 cgr124 fgr120 fgr121 fgr122 fgr123 fgr124
    go_wp2_with (fail)
    refine (markIntSO _ _ _ y (1 + (r.items.length : Int) + 2 * (r.senders.length : Int) + (r.getters.length : Int)) _ Ogy_13.out (by omega) (by omega) (by omega)).mono ?_
    rintro e w14 ⟨rfl, ho, hs, ht⟩
    have B14 := Lib.hid (Below.trans B13.out (hs.below (by first | omega | (simp only [szA, szS, szD, World.heap_drewN] at * <;> omega)) (by first | omega | (simp only [szA, szS, szD, World.heap_drewN] at * <;> omega))) : Below w.heap.size w w14); have Z14 := hs.size
    have N14 : w13.heap.size ≤ w14.heap.size := (by first | exact Z14 | (simp only [szA, szD] at Z14; omega))
    clear Z14
    have XA_14 := Lib.hid (hs.box XA_13.out (by first | omega | (simp only [szA, szS, szD, World.heap_drewN] at * <;> omega)))
    have Xwr_14 := Lib.hid (hs.box Xwr_13.out (by first | omega | (simp only [szA, szS, szD, World.heap_drewN] at * <;> omega)))
    have Xx_14 := Lib.hid (hs.box Xx_13.out (by first | omega | (simp only [szA, szS, szD, World.heap_drewN] at * <;> omega)))
    have Xgr_14 := Lib.hid (hs.box Xgr_13.out (by first | omega | (simp only [szA, szS, szD, World.heap_drewN] at * <;> omega)))
    have Owr_14 := Lib.hid (Owr_13.out.span hs (by first | omega | (simp only [szA, szS, szD, World.heap_drewN] at * <;> omega)))
    have Owy_14 := Lib.hid (Owy_13.out.span hs (by first | omega | (simp only [szA, szS, szD, World.heap_drewN] at * <;> omega)))
    have Ox_14 := Lib.hid (Ox_13.out.span hs (by first | omega | (simp only [szA, szS, szD, World.heap_drewN] at * <;> omega)))
    have Ogr_14 := Lib.hid (Ogr_13.out.grownL ht FRg.out)
    have Ogy_14 := Lib.hid ho
    clear hs ho ht
    obtain ⟨cA140, cA141, cA142, cA143, cA144, fA140, fA141, fA142, fA143, fA144⟩ := box5 XA_14.out; have lA14 := heap_lt XA_14.out
    obtain ⟨cwr140, cwr141, cwr142, cwr143, cwr144, fwr140, fwr141, fwr142, fwr143, fwr144⟩ := box5 Xwr_14.out; have lwr14 := heap_lt Xwr_14.out
    obtain ⟨cx140, cx141, cx142, cx143, cx144, fx140, fx141, fx142, fx143, fx144⟩ := box5 Xx_14.out; have lx14 := heap_lt Xx_14.out
    obtain ⟨cgr140, cgr141, cgr142, cgr143, cgr144, fgr140, fgr141, fgr142, fgr143, fgr144⟩ := box5 Xgr_14.out; have lgr14 := heap_lt Xgr_14.out
    clear cA130 cA131 cA132 cA133 cA134 fA130 fA131 fA132 fA133 fA134 cwr130 cwr131 cwr132 cwr133 cwr134 fwr130 fwr131 fwr132 fwr133 fwr134 cx130 cx131 cx132 cx133 cx134 fx130 fx131 fx132 fx133 fx134 cgr130 cgr131 cgr132 cgr133 cgr134 fgr130 fgr131 fgr132 fgr133 fgr134
    go_wp2_with (fail)
    refine (heldChan_calls _ r (1) _ (Ogr_14.out.row) (by omega) (by omega) (by omega)).mono ?_
    rintro e w15 ⟨rfl, hb⟩
    have B15 := Lib.hid (Below.trans B14.out (hb.mono (by first | omega | (simp only [szA, szS, szD, World.heap_drewN] at * <;> omega))) : Below w.heap.size w w15); have Z15 := hb.size
    have N15 : w14.heap.size ≤ w15.heap.size := (by first | exact Z15 | (simp only [szA, szD] at Z15; omega))
    clear Z15
    have XA_15 := Lib.hid (below_at hb XA_14.out)
    have Xwr_15 := Lib.hid (below_at hb Xwr_14.out)
    have Xx_15 := Lib.hid (below_at hb Xx_14.out)
    have Xgr_15 := Lib.hid (below_at hb Xgr_14.out)
    have Owr_15 := Lib.hid (Owr_14.out.kept hb)
    have Owy_15 := Lib.hid (Owy_14.out.kept hb)
    have Ox_15 := Lib.hid (Ox_14.out.kept hb)
    have Ogr_15 := Lib.hid (Ogr_14.out.kept hb)
    have Ogy_15 := Lib.hid (Ogy_14.out.kept hb)
    clear hb
    obtain ⟨cA150, cA151, cA152, cA153, cA154, fA150, fA151, fA152, fA153, fA154⟩ := box5 XA_15.out; have lA15 := heap_lt XA_15.out
    obtain ⟨cwr150, cwr151, cwr152, cwr153, cwr154, fwr150, fwr151, fwr152, fwr153, fwr154⟩ := box5 Xwr_15.out; have lwr15 := heap_lt Xwr_15.out
    obtain ⟨cx150, cx151, cx152, cx153, cx154, fx150, fx151, fx152, fx153, fx154⟩ := box5 Xx_15.out; have lx15 := heap_lt Xx_15.out
    obtain ⟨cgr150, cgr151, cgr152, cgr153, cgr154, fgr150, fgr151, fgr152, fgr153, fgr154⟩ := box5 Xgr_15.out; have lgr15 := heap_lt Xgr_15.out
    clear cA140 cA141 cA142 cA143 cA144 fA140 fA141 fA142 fA143 fA144 cwr140 cwr141 cwr142 cwr143 cwr144 fwr140 fwr141 fwr142 fwr143 fwr144 cx140 cx141 cx142 cx143 cx144 fx140 fx141 fx142 fx143 fx144 cgr140 cgr141 cgr142 cgr143 cgr144 fgr140 fgr141 fgr142 fgr143 fgr144
    go_wp2_with (fail)
    refine (heldIntS_calls _ y.length (1 + (r.items.length : Int) + 2 * (r.senders.length : Int) + (r.getters.length : Int)) _ (Ogy_15.out.row) (by omega) (by omega) (by omega)).mono ?_
    rintro e w16 ⟨rfl, hb⟩
    have B16 := Lib.hid (Below.trans B15.out (hb.mono (by first | omega | (simp only [szA, szS, szD, World.heap_drewN] at * <;> omega))) : Below w.heap.size w w16); have Z16 := hb.size
    have N16 : w15.heap.size ≤ w16.heap.size := (by first | exact Z16 | (simp only [szA, szD] at Z16; omega))
    clear Z16
    have XA_16 := Lib.hid (below_at hb XA_15.out)
    have Xwr_16 := Lib.hid (below_at hb Xwr_15.out)
    have Xx_16 := Lib.hid (below_at hb Xx_15.out)
    have Xgr_16 := Lib.hid (below_at hb Xgr_15.out)
    have Owr_16 := Lib.hid (Owr_15.out.kept hb)
    have Owy_16 := Lib.hid (Owy_15.out.kept hb)
    have Ox_16 := Lib.hid (Ox_15.out.kept hb)
    have Ogr_16 := Lib.hid (Ogr_15.out.kept hb)
    have Ogy_16 := Lib.hid (Ogy_15.out.kept hb)
    clear hb
    obtain ⟨cA160, cA161, cA162, cA163, cA164, fA160, fA161, fA162, fA163, fA164⟩ := box5 XA_16.out; have lA16 := heap_lt XA_16.out
    obtain ⟨cwr160, cwr161, cwr162, cwr163, cwr164, fwr160, fwr161, fwr162, fwr163, fwr164⟩ := box5 Xwr_16.out; have lwr16 := heap_lt Xwr_16.out
    obtain ⟨cx160, cx161, cx162, cx163, cx164, fx160, fx161, fx162, fx163, fx164⟩ := box5 Xx_16.out; have lx16 := heap_lt Xx_16.out
    obtain ⟨cgr160, cgr161, cgr162, cgr163, cgr164, fgr160, fgr161, fgr162, fgr163, fgr164⟩ := box5 Xgr_16.out; have lgr16 := heap_lt Xgr_16.out
    clear cA150 cA151 cA152 cA153 cA154 fA150 fA151 fA152 fA153 fA154 cwr150 cwr151 cwr152 cwr153 cwr154 fwr150 fwr151 fwr152 fwr153 fwr154 cx150 cx151 cx152 cx153 cx154 fx150 fx151 fx152 fx153 fx154 cgr150 cgr151 cgr152 cgr153 cgr154 fgr150 fgr151 fgr152 fgr153 fgr154
    go_wp2_with (fail)
    refine (toChan_calls _ c _ (ChanRow.below HA.out B16.out) hsz2).mono ?_
    rintro e w17 ⟨vz, rfl, ho_z, hb⟩
    have B17 := Lib.hid (Below.trans B16.out (hb.mono (by first | omega | (simp only [szA, szS, szD, World.heap_drewN] at * <;> omega))) : Below w.heap.size w w17); have Z17 := hb.size
    have N17 : w16.heap.size ≤ w17.heap.size := (by first | exact Z17 | (simp only [szA, szD] at Z17; omega))
    clear Z17
    have XA_17 := Lib.hid (below_at hb XA_16.out)
    have Xwr_17 := Lib.hid (below_at hb Xwr_16.out)
    have Xx_17 := Lib.hid (below_at hb Xx_16.out)
    have Xgr_17 := Lib.hid (below_at hb Xgr_16.out)
    have Owr_17 := Lib.hid (Owr_16.out.kept hb)
    have Owy_17 := Lib.hid (Owy_16.out.kept hb)
    have Ox_17 := Lib.hid (Ox_16.out.kept hb)
    have Ogr_17 := Lib.hid (Ogr_16.out.kept hb)
    have Ogy_17 := Lib.hid (Ogy_16.out.kept hb)
    have Oz_17 := Lib.hid (ho_z.mono (lo' := w16.heap.size) (by first | omega | (simp only [szA, szS, szD, World.heap_drewN] at * <;> omega)) (Nat.le_refl _)); obtain ⟨az1, pz1, az2, pz2, az3, pz3, rfl, hx_z⟩ := ho_z; clear hx_z
    clear hb
    obtain ⟨cA170, cA171, cA172, cA173, cA174, fA170, fA171, fA172, fA173, fA174⟩ := box5 XA_17.out; have lA17 := heap_lt XA_17.out
    obtain ⟨cwr170, cwr171, cwr172, cwr173, cwr174, fwr170, fwr171, fwr172, fwr173, fwr174⟩ := box5 Xwr_17.out; have lwr17 := heap_lt Xwr_17.out
    obtain ⟨cx170, cx171, cx172, cx173, cx174, fx170, fx171, fx172, fx173, fx174⟩ := box5 Xx_17.out; have lx17 := heap_lt Xx_17.out
    obtain ⟨cgr170, cgr171, cgr172, cgr173, cgr174, fgr170, fgr171, fgr172, fgr173, fgr174⟩ := box5 Xgr_17.out; have lgr17 := heap_lt Xgr_17.out
    clear cA160 cA161 cA162 cA163 cA164 fA160 fA161 fA162 fA163 fA164 cwr160 cwr161 cwr162 cwr163 cwr164 fwr160 fwr161 fwr162 fwr163 fwr164 cx160 cx161 cx162 cx163 cx164 fx160 fx161 fx162 fx163 fx164 cgr160 cgr161 cgr162 cgr163 cgr164 fgr160 fgr161 fgr162 fgr163 fgr164
    go_wp2_with (fail)
    refine (CloseChanO _ c r y b1 _ (Oz_17.out.row) hsz2 HR.out).mono ?_
    rintro e w18 ⟨vhr, vhy, rfl, ho_hr, ho_hy, hap, hb⟩
    have B18 := Lib.hid (Below.trans B17.out (hb.mono (by first | omega | (simp only [szA, szS, szD, World.heap_drewN] at * <;> omega))) : Below w.heap.size w w18); have Z18 := hb.size
    have N18 : w17.heap.size ≤ w18.heap.size := (by first | exact Z18 | (simp only [szA, szD] at Z18; omega))
    clear Z18
    have XA_18 := Lib.hid (below_at hb XA_17.out)
    have Xwr_18 := Lib.hid (below_at hb Xwr_17.out)
    have Xx_18 := Lib.hid (below_at hb Xx_17.out)
    have Xgr_18 := Lib.hid (below_at hb Xgr_17.out)
    have Owr_18 := Lib.hid (Owr_17.out.kept hb)
    have Owy_18 := Lib.hid (Owy_17.out.kept hb)
    have Ox_18 := Lib.hid (Ox_17.out.kept hb)
    have Ogr_18 := Lib.hid (Ogr_17.out.kept hb)
    have Ogy_18 := Lib.hid (Ogy_17.out.kept hb)
    have Oz_18 := Lib.hid (Oz_17.out.kept hb)
    have Ohr_18 := Lib.hid (ho_hr.mono (lo' := w17.heap.size) (by first | omega | (simp only [szA, szS, szD, World.heap_drewN] at * <;> omega)) (Nat.le_refl _)); obtain ⟨ahr1, phr1, ahr2, phr2, ahr3, phr3, rfl, hx_hr⟩ := ho_hr; clear hx_hr
    have Ohy_18 := Lib.hid (ho_hy.mono (lo' := w17.heap.size) (by first | omega | (simp only [szA, szS, szD, World.heap_drewN] at * <;> omega)) (Nat.le_refl _)); obtain ⟨ahy, phy, rfl, hx_hy⟩ := ho_hy; clear hx_hy
    clear hb
    obtain ⟨cA180, cA181, cA182, cA183, cA184, fA180, fA181, fA182, fA183, fA184⟩ := box5 XA_18.out; have lA18 := heap_lt XA_18.out
    obtain ⟨cwr180, cwr181, cwr182, cwr183, cwr184, fwr180, fwr181, fwr182, fwr183, fwr184⟩ := box5 Xwr_18.out; have lwr18 := heap_lt Xwr_18.out
    obtain ⟨cx180, cx181, cx182, cx183, cx184, fx180, fx181, fx182, fx183, fx184⟩ := box5 Xx_18.out; have lx18 := heap_lt Xx_18.out
    obtain ⟨cgr180, cgr181, cgr182, cgr183, cgr184, fgr180, fgr181, fgr182, fgr183, fgr184⟩ := box5 Xgr_18.out; have lgr18 := heap_lt Xgr_18.out
    clear cA170 cA171 cA172 cA173 cA174 fA170 fA171 fA172 fA173 fA174 cwr170 cwr171 cwr172 cwr173 cwr174 fwr170 fwr171 fwr172 fwr173 fwr174 cx170 cx171 cx172 cx173 cx174 fx170 fx171 fx172 fx173 fx174 cgr170 cgr171 cgr172 cgr173 cgr174 fgr170 fgr171 fgr172 fgr173 fgr174
    have FRh := Lib.hid hap; clear hap
    go_wp2_with (fail)
    refine (eqChan_calls _ _ r r _ ((Ohr_18.out.alloc _).row) ((Owr_18.out.alloc _).row)).mono ?_
    rw [decide_eq_true rfl]
    rintro e w19 ⟨rfl, hb⟩
    have B19 := Lib.hid (Below.trans (Below.alloc B18.out (by first | omega | (simp only [szA, szS, szD, World.heap_drewN] at * <;> omega)) _) (hb.mono (by first | omega | (simp only [szA, szS, szD, World.heap_drewN] at * <;> omega))) : Below w.heap.size w w19); have Z19 := hb.size
    have N19 : w18.heap.size + 1 ≤ w19.heap.size := (by first | exact Z19 | (simp only [szA, szD] at Z19; omega))
    clear Z19
    have XA_19 := Lib.hid (below_at hb (heap_up XA_18.out))
    have Xwr_19 := Lib.hid (below_at hb (heap_up Xwr_18.out))
    have Xx_19 := Lib.hid (below_at hb (heap_up Xx_18.out))
    have Xgr_19 := Lib.hid (below_at hb (heap_up Xgr_18.out))
    have Xhr_19 : Hid (w19.heap[w18.heap.size]? = some (.cells #[.int .i64 r.room, .slice ahr1 r.items.length phr1, .slice ahr2 r.senders.length phr2, .slice ahr3 r.getters.length phr3, .bool r.closed] 25 (0, 0))) := below_at hb (heap_at' (n := w18.heap.size) (by first | omega | (simp only [szA, szS, szD, World.heap_drewN] at * <;> omega)))
    have Owr_19 := Lib.hid ((Owr_18.out.alloc _).kept hb)
    have Owy_19 := Lib.hid ((Owy_18.out.alloc _).kept hb)
    have Ox_19 := Lib.hid ((Ox_18.out.alloc _).kept hb)
    have Ogr_19 := Lib.hid ((Ogr_18.out.alloc _).kept hb)
    have Ogy_19 := Lib.hid ((Ogy_18.out.alloc _).kept hb)
    have Ohr_19 := Lib.hid ((Ohr_18.out.alloc _).kept hb)
    have Ohy_19 := Lib.hid ((Ohy_18.out.alloc _).kept hb)
    clear hb
    obtain ⟨cA190, cA191, cA192, cA193, cA194, fA190, fA191, fA192, fA193, fA194⟩ := box5 XA_19.out; have lA19 := heap_lt XA_19.out
    obtain ⟨cwr190, cwr191, cwr192, cwr193, cwr194, fwr190, fwr191, fwr192, fwr193, fwr194⟩ := box5 Xwr_19.out; have lwr19 := heap_lt Xwr_19.out
    obtain ⟨cx190, cx191, cx192, cx193, cx194, fx190, fx191, fx192, fx193, fx194⟩ := box5 Xx_19.out; have lx19 := heap_lt Xx_19.out
    obtain ⟨cgr190, cgr191, cgr192, cgr193, cgr194, fgr190, fgr191, fgr192, fgr193, fgr194⟩ := box5 Xgr_19.out; have lgr19 := heap_lt Xgr_19.out
    obtain ⟨chr190, chr191, chr192, chr193, chr194, fhr190, fhr191, fhr192, fhr193, fhr194⟩ := box5 Xhr_19.out; have lhr19 := heap_lt Xhr_19.out
    clear cA180 cA181 cA182 cA183 cA184 fA180 fA181 fA182 fA183 fA184 cwr180 cwr181 cwr182 cwr183 cwr184 fwr180 fwr181 fwr182 fwr183 fwr184 cx180 cx181 cx182 cx183 cx184 fx180 fx181 fx182 fx183 fx184 cgr180 cgr181 cgr182 cgr183 cgr184 fgr180 fgr181 fgr182 fgr183 fgr184
    go_wp2_with (fail)
    refine (eqIntS_calls _ _ y y _ (Ohy_19.out.row) (Owy_19.out.row)).mono ?_
    rw [decide_eq_true rfl]
    rintro e w20 ⟨rfl, hb⟩
    have B20 := Lib.hid (Below.trans B19.out (hb.mono (by first | omega | (simp only [szA, szS, szD, World.heap_drewN] at * <;> omega))) : Below w.heap.size w w20); have Z20 := hb.size
    have N20 : w19.heap.size ≤ w20.heap.size := (by first | exact Z20 | (simp only [szA, szD] at Z20; omega))
    clear Z20
    have XA_20 := Lib.hid (below_at hb XA_19.out)
    have Xwr_20 := Lib.hid (below_at hb Xwr_19.out)
    have Xx_20 := Lib.hid (below_at hb Xx_19.out)
    have Xgr_20 := Lib.hid (below_at hb Xgr_19.out)
    have Xhr_20 := Lib.hid (below_at hb Xhr_19.out)
    have Owr_20 := Lib.hid (Owr_19.out.kept hb)
    have Owy_20 := Lib.hid (Owy_19.out.kept hb)
    have Ox_20 := Lib.hid (Ox_19.out.kept hb)
    have Ogr_20 := Lib.hid (Ogr_19.out.kept hb)
    have Ogy_20 := Lib.hid (Ogy_19.out.kept hb)
    have Ohr_20 := Lib.hid (Ohr_19.out.kept hb)
    have Ohy_20 := Lib.hid (Ohy_19.out.kept hb)
    clear hb
    obtain ⟨cA200, cA201, cA202, cA203, cA204, fA200, fA201, fA202, fA203, fA204⟩ := box5 XA_20.out; have lA20 := heap_lt XA_20.out
    obtain ⟨cwr200, cwr201, cwr202, cwr203, cwr204, fwr200, fwr201, fwr202, fwr203, fwr204⟩ := box5 Xwr_20.out; have lwr20 := heap_lt Xwr_20.out
    obtain ⟨cx200, cx201, cx202, cx203, cx204, fx200, fx201, fx202, fx203, fx204⟩ := box5 Xx_20.out; have lx20 := heap_lt Xx_20.out
    obtain ⟨cgr200, cgr201, cgr202, cgr203, cgr204, fgr200, fgr201, fgr202, fgr203, fgr204⟩ := box5 Xgr_20.out; have lgr20 := heap_lt Xgr_20.out
    obtain ⟨chr200, chr201, chr202, chr203, chr204, fhr200, fhr201, fhr202, fhr203, fhr204⟩ := box5 Xhr_20.out; have lhr20 := heap_lt Xhr_20.out
    clear cA190 cA191 cA192 cA193 cA194 fA190 fA191 fA192 fA193 fA194 cwr190 cwr191 cwr192 cwr193 cwr194 fwr190 fwr191 fwr192 fwr193 fwr194 cx190 cx191 cx192 cx193 cx194 fx190 fx191 fx192 fx193 fx194 cgr190 cgr191 cgr192 cgr193 cgr194 fgr190 fgr191 fgr192 fgr193 fgr194 chr190 chr191 chr192 chr193 chr194 fhr190 fhr191 fhr192 fhr193 fhr194
    go_wp2_with (fail)
    refine (heldChan_calls _ r (1) _ (Ogr_20.out.row) (by omega) (by omega) (by omega)).mono ?_
    rintro e w21 ⟨rfl, hb⟩
    have B21 := Lib.hid (Below.trans B20.out (hb.mono (by first | omega | (simp only [szA, szS, szD, World.heap_drewN] at * <;> omega))) : Below w.heap.size w w21); have Z21 := hb.size
    have N21 : w20.heap.size ≤ w21.heap.size := (by first | exact Z21 | (simp only [szA, szD] at Z21; omega))
    clear Z21
    have XA_21 := Lib.hid (below_at hb XA_20.out)
    have Xwr_21 := Lib.hid (below_at hb Xwr_20.out)
    have Xx_21 := Lib.hid (below_at hb Xx_20.out)
    have Xgr_21 := Lib.hid (below_at hb Xgr_20.out)
    have Xhr_21 := Lib.hid (below_at hb Xhr_20.out)
    have Owr_21 := Lib.hid (Owr_20.out.kept hb)
    have Owy_21 := Lib.hid (Owy_20.out.kept hb)
    have Ox_21 := Lib.hid (Ox_20.out.kept hb)
    have Ogr_21 := Lib.hid (Ogr_20.out.kept hb)
    have Ogy_21 := Lib.hid (Ogy_20.out.kept hb)
    have Ohr_21 := Lib.hid (Ohr_20.out.kept hb)
    have Ohy_21 := Lib.hid (Ohy_20.out.kept hb)
    clear hb
    obtain ⟨cA210, cA211, cA212, cA213, cA214, fA210, fA211, fA212, fA213, fA214⟩ := box5 XA_21.out; have lA21 := heap_lt XA_21.out
    obtain ⟨cwr210, cwr211, cwr212, cwr213, cwr214, fwr210, fwr211, fwr212, fwr213, fwr214⟩ := box5 Xwr_21.out; have lwr21 := heap_lt Xwr_21.out
    obtain ⟨cx210, cx211, cx212, cx213, cx214, fx210, fx211, fx212, fx213, fx214⟩ := box5 Xx_21.out; have lx21 := heap_lt Xx_21.out
    obtain ⟨cgr210, cgr211, cgr212, cgr213, cgr214, fgr210, fgr211, fgr212, fgr213, fgr214⟩ := box5 Xgr_21.out; have lgr21 := heap_lt Xgr_21.out
    obtain ⟨chr210, chr211, chr212, chr213, chr214, fhr210, fhr211, fhr212, fhr213, fhr214⟩ := box5 Xhr_21.out; have lhr21 := heap_lt Xhr_21.out
    clear cA200 cA201 cA202 cA203 cA204 fA200 fA201 fA202 fA203 fA204 cwr200 cwr201 cwr202 cwr203 cwr204 fwr200 fwr201 fwr202 fwr203 fwr204 cx200 cx201 cx202 cx203 cx204 fx200 fx201 fx202 fx203 fx204 cgr200 cgr201 cgr202 cgr203 cgr204 fgr200 fgr201 fgr202 fgr203 fgr204 chr200 chr201 chr202 chr203 chr204 fhr200 fhr201 fhr202 fhr203 fhr204
    go_wp2_with (fail)
    refine (heldIntS_calls _ y.length (1 + (r.items.length : Int) + 2 * (r.senders.length : Int) + (r.getters.length : Int)) _ (Ogy_21.out.row) (by omega) (by omega) (by omega)).mono ?_
    rintro e w22 ⟨rfl, hb⟩
    have B22 := Lib.hid (Below.trans B21.out (hb.mono (by first | omega | (simp only [szA, szS, szD, World.heap_drewN] at * <;> omega))) : Below w.heap.size w w22); have Z22 := hb.size
    have N22 : w21.heap.size ≤ w22.heap.size := (by first | exact Z22 | (simp only [szA, szD] at Z22; omega))
    clear Z22
    have XA_22 := Lib.hid (below_at hb XA_21.out)
    have Xwr_22 := Lib.hid (below_at hb Xwr_21.out)
    have Xx_22 := Lib.hid (below_at hb Xx_21.out)
    have Xgr_22 := Lib.hid (below_at hb Xgr_21.out)
    have Xhr_22 := Lib.hid (below_at hb Xhr_21.out)
    have Owr_22 := Lib.hid (Owr_21.out.kept hb)
    have Owy_22 := Lib.hid (Owy_21.out.kept hb)
    have Ox_22 := Lib.hid (Ox_21.out.kept hb)
    have Ogr_22 := Lib.hid (Ogr_21.out.kept hb)
    have Ogy_22 := Lib.hid (Ogy_21.out.kept hb)
    have Ohr_22 := Lib.hid (Ohr_21.out.kept hb)
    have Ohy_22 := Lib.hid (Ohy_21.out.kept hb)
    clear hb
    obtain ⟨cA220, cA221, cA222, cA223, cA224, fA220, fA221, fA222, fA223, fA224⟩ := box5 XA_22.out; have lA22 := heap_lt XA_22.out
    obtain ⟨cwr220, cwr221, cwr222, cwr223, cwr224, fwr220, fwr221, fwr222, fwr223, fwr224⟩ := box5 Xwr_22.out; have lwr22 := heap_lt Xwr_22.out
    obtain ⟨cx220, cx221, cx222, cx223, cx224, fx220, fx221, fx222, fx223, fx224⟩ := box5 Xx_22.out; have lx22 := heap_lt Xx_22.out
    obtain ⟨cgr220, cgr221, cgr222, cgr223, cgr224, fgr220, fgr221, fgr222, fgr223, fgr224⟩ := box5 Xgr_22.out; have lgr22 := heap_lt Xgr_22.out
    obtain ⟨chr220, chr221, chr222, chr223, chr224, fhr220, fhr221, fhr222, fhr223, fhr224⟩ := box5 Xhr_22.out; have lhr22 := heap_lt Xhr_22.out
    clear cA210 cA211 cA212 cA213 cA214 fA210 fA211 fA212 fA213 fA214 cwr210 cwr211 cwr212 cwr213 cwr214 fwr210 fwr211 fwr212 fwr213 fwr214 cx210 cx211 cx212 cx213 cx214 fx210 fx211 fx212 fx213 fx214 cgr210 cgr211 cgr212 cgr213 cgr214 fgr210 fgr211 fgr212 fgr213 fgr214 chr210 chr211 chr212 chr213 chr214 fhr210 fhr211 fhr212 fhr213 fhr214
    go_wp2
    go_ret
    exact ⟨rfl, B22.out⟩
  · rw [szF_neg hsz]
    go_wp2
    go_ret
    exact ⟨rfl, B1.out⟩
end Go.Proofs.Ytpgiinklbnlloaa
