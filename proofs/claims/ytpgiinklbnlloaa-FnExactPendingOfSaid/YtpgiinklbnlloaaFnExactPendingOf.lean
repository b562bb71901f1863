/- FnExactPendingOf: the law's walk (made by exact.py). -/
import Derived.Test.YtpgiinklbnlloaaChanPend
namespace Go.Proofs.Ytpgiinklbnlloaa
open Go.RowKit
set_option linter.unusedSimpArgs false
set_option linter.unusedVariables false
set_option maxHeartbeats 8000000 in
theorem FnExactPendingOf_calls (v : Value) (c : ChanD) (w : World) (h : ChanRow w v c) :
    Calls Try.prog 8 #[v] w fun e w' => e = .returned (.bool true) ∧ Below w.heap.size w w' := by
  have HA := Lib.hid h
  obtain ⟨aA1, pA1, aA2, pA2, aA3, pA3, rfl, h⟩ := h
  clear h
  obtain ⟨y, b1, hr⟩ : ∃ (y : List Int) (b1 : Bool), pend c = (y, b1) := ⟨_, _, rfl⟩
  have HR := Lib.hid hr; clear hr
  go_enter Try.func8, Try.ntmps8
  go_wp2_with (fail)
  refine (szChan_calls _ c 1048576 _ (ChanRow.below HA.out (Below.alloc (Below.refl _ _) (by first | omega | (simp only [szA, szS, szD, World.heap_drewN] at * <;> omega)) _)) (by omega) (by omega)).mono ?_
  rintro e w1 ⟨rfl, hb⟩
  have B1 := Lib.hid (Below.trans (Below.alloc (Below.refl _ _) (by first | omega | (simp only [szA, szS, szD, World.heap_drewN] at * <;> omega)) _) (hb.mono (by first | omega | (simp only [szA, szS, szD, World.heap_drewN] at * <;> omega))) : Below w.heap.size w w1); have Z1 := hb.size
  have N1 : w.heap.size + 1 ≤ w1.heap.size := (by first | exact Z1 | (simp only [szA, szD] at Z1; omega))
  clear Z1
  have XA_1 : Hid (w1.heap[w.heap.size]? = some (.cells #[.int .i64 c.room, .slice aA1 c.items.length pA1, .slice aA2 c.senders.length pA2, .slice aA3 c.getters.length pA3, .bool c.closed] 39 (0, 0))) := below_at hb (heap_at' (n := w.heap.size) (by first | omega | (simp only [szA, szS, szD, World.heap_drewN] at * <;> omega)))
  clear hb
  obtain ⟨cA10, cA11, cA12, cA13, cA14, fA10, fA11, fA12, fA13, fA14⟩ := box5 XA_1.out; have lA1 := heap_lt XA_1.out
  by_cases hsz : ((c.items.length + c.senders.length + c.getters.length : Nat) : Int) ≤ 1048576
  · rw [szF_pos hsz]
    have hsz2 : c.items.length + c.senders.length + c.getters.length ≤ 1048576 := by omega
    clear hsz
    have hys := pend_small HR.out
    go_wp2_with (fail)
    refine (toChan_calls _ c _ (ChanRow.below HA.out B1.out) hsz2).mono ?_
    rintro e w2 ⟨vt, rfl, ho_t, hb⟩
    have B2 := Lib.hid (Below.trans B1.out (hb.mono (by first | omega | (simp only [szA, szS, szD, World.heap_drewN] at * <;> omega))) : Below w.heap.size w w2); have Z2 := hb.size
    have N2 : w1.heap.size ≤ w2.heap.size := (by first | exact Z2 | (simp only [szA, szD] at Z2; omega))
    clear Z2
    have XA_2 := Lib.hid (below_at hb XA_1.out)
    have Ot_2 := Lib.hid (ho_t.mono (lo' := w1.heap.size) (by first | omega | (simp only [szA, szS, szD, World.heap_drewN] at * <;> omega)) (Nat.le_refl _)); obtain ⟨at1, pt1, at2, pt2, at3, pt3, rfl, hx_t⟩ := ho_t; clear hx_t
    clear hb
    obtain ⟨cA20, cA21, cA22, cA23, cA24, fA20, fA21, fA22, fA23, fA24⟩ := box5 XA_2.out; have lA2 := heap_lt XA_2.out
    clear cA10 cA11 cA12 cA13 cA14 fA10 fA11 fA12 fA13 fA14
    go_wp2_with (fail)
    refine (sPendingOfO _ c y b1 _ (Ot_2.out.row) hsz2 HR.out).mono ?_
    rintro e w3 ⟨vwy, rfl, ho_wy, hb⟩
    have B3 := Lib.hid (Below.trans B2.out (hb.mono (by first | omega | (simp only [szA, szS, szD, World.heap_drewN] at * <;> omega))) : Below w.heap.size w w3); have Z3 := hb.size
    have N3 : w2.heap.size ≤ w3.heap.size := (by first | exact Z3 | (simp only [szA, szD] at Z3; omega))
    clear Z3
    have XA_3 := Lib.hid (below_at hb XA_2.out)
    have Ot_3 := Lib.hid (Ot_2.out.kept hb)
    have Owy_3 := Lib.hid (ho_wy.mono (lo' := w2.heap.size) (by first | omega | (simp only [szA, szS, szD, World.heap_drewN] at * <;> omega)) (Nat.le_refl _)); obtain ⟨awy, pwy, rfl, hx_wy⟩ := ho_wy; clear hx_wy
    clear hb
    obtain ⟨cA30, cA31, cA32, cA33, cA34, fA30, fA31, fA32, fA33, fA34⟩ := box5 XA_3.out; have lA3 := heap_lt XA_3.out
    clear cA20 cA21 cA22 cA23 cA24 fA20 fA21 fA22 fA23 fA24
    go_wp2_with (fail)
    refine (toChan_calls _ c _ (ChanRow.below HA.out B3.out) hsz2).mono ?_
    rintro e w4 ⟨vx, rfl, ho_x, hb⟩
    have B4 := Lib.hid (Below.trans B3.out (hb.mono (by first | omega | (simp only [szA, szS, szD, World.heap_drewN] at * <;> omega))) : Below w.heap.size w w4); have Z4 := hb.size
    have N4 : w3.heap.size ≤ w4.heap.size := (by first | exact Z4 | (simp only [szA, szD] at Z4; omega))
    clear Z4
    have XA_4 := Lib.hid (below_at hb XA_3.out)
    have Owy_4 := Lib.hid (Owy_3.out.kept hb)
    have Ox_4 := Lib.hid (ho_x.mono (lo' := w3.heap.size) (by first | omega | (simp only [szA, szS, szD, World.heap_drewN] at * <;> omega)) (Nat.le_refl _)); obtain ⟨ax1, px1, ax2, px2, ax3, px3, rfl, hx_x⟩ := ho_x; clear hx_x
    clear hb
    obtain ⟨cA40, cA41, cA42, cA43, cA44, fA40, fA41, fA42, fA43, fA44⟩ := box5 XA_4.out; have lA4 := heap_lt XA_4.out
    clear cA30 cA31 cA32 cA33 cA34 fA30 fA31 fA32 fA33 fA34
    go_wp2_with (fail)
    refine (PendingOfO _ c y b1 _ ((Ox_4.out.alloc _).row) hsz2 HR.out).mono ?_
    rintro e w5 ⟨vgy, rfl, ho_gy, hb⟩
    have B5 := Lib.hid (Below.trans (Below.alloc B4.out (by first | omega | (simp only [szA, szS, szD, World.heap_drewN] at * <;> omega)) _) (hb.mono (by first | omega | (simp only [szA, szS, szD, World.heap_drewN] at * <;> omega))) : Below w.heap.size w w5); have Z5 := hb.size
    have N5 : w4.heap.size + 1 ≤ w5.heap.size := (by first | exact Z5 | (simp only [szA, szD] at Z5; omega))
    clear Z5
    have XA_5 := Lib.hid (below_at hb (heap_up XA_4.out))
    have Xx_5 : Hid (w5.heap[w4.heap.size]? = some (.cells #[.int .i64 c.room, .slice ax1 c.items.length px1, .slice ax2 c.senders.length px2, .slice ax3 c.getters.length px3, .bool c.closed] 25 (0, 0))) := below_at hb (heap_at' (n := w4.heap.size) (by first | omega | (simp only [szA, szS, szD, World.heap_drewN] at * <;> omega)))
    have Owy_5 := Lib.hid ((Owy_4.out.alloc _).kept hb)
    have Ox_5 := Lib.hid ((Ox_4.out.alloc _).kept hb)
    have Ogy_5 := Lib.hid (ho_gy.mono (lo' := w4.heap.size + 1) (by first | omega | (simp only [szA, szS, szD, World.heap_drewN] at * <;> omega)) (Nat.le_refl _)); obtain ⟨agy, pgy, rfl, hx_gy⟩ := ho_gy; clear hx_gy
    clear hb
    obtain ⟨cA50, cA51, cA52, cA53, cA54, fA50, fA51, fA52, fA53, fA54⟩ := box5 XA_5.out; have lA5 := heap_lt XA_5.out
    obtain ⟨cx50, cx51, cx52, cx53, cx54, fx50, fx51, fx52, fx53, fx54⟩ := box5 Xx_5.out; have lx5 := heap_lt Xx_5.out
    clear cA40 cA41 cA42 cA43 cA44 fA40 fA41 fA42 fA43 fA44
    go_wp2_with (fail)
    refine (eqIntS_calls _ _ y y _ (Ogy_5.out.row) (Owy_5.out.row)).mono ?_
    rw [decide_eq_true rfl]
    rintro e w6 ⟨rfl, hb⟩
    have B6 := Lib.hid (Below.trans B5.out (hb.mono (by first | omega | (simp only [szA, szS, szD, World.heap_drewN] at * <;> omega))) : Below w.heap.size w w6); have Z6 := hb.size
    have N6 : w5.heap.size ≤ w6.heap.size := (by first | exact Z6 | (simp only [szA, szD] at Z6; omega))
    clear Z6
    have XA_6 := Lib.hid (below_at hb XA_5.out)
    have Xx_6 := Lib.hid (below_at hb Xx_5.out)
    have Owy_6 := Lib.hid (Owy_5.out.kept hb)
    have Ox_6 := Lib.hid (Ox_5.out.kept hb)
    have Ogy_6 := Lib.hid (Ogy_5.out.kept hb)
    clear hb
    obtain ⟨cA60, cA61, cA62, cA63, cA64, fA60, fA61, fA62, fA63, fA64⟩ := box5 XA_6.out; have lA6 := heap_lt XA_6.out
    obtain ⟨cx60, cx61, cx62, cx63, cx64, fx60, fx61, fx62, fx63, fx64⟩ := box5 Xx_6.out; have lx6 := heap_lt Xx_6.out
    clear cA50 cA51 cA52 cA53 cA54 fA50 fA51 fA52 fA53 fA54 cx50 cx51 cx52 cx53 cx54 fx50 fx51 fx52 fx53 fx54
    go_wp2_with (fail)
    go_region_held3 (fun w' => w'.cell? ⟨w4.heap.size, 0, none⟩ = some (.int .i64 c.room) ∧ w'.cell? ⟨w4.heap.size, 1, none⟩ = some (.slice ax1 c.items.length px1) ∧ w'.cell? ⟨w4.heap.size, 2, none⟩ = some (.slice ax2 c.senders.length px2) ∧ w'.cell? ⟨w4.heap.size, 3, none⟩ = some (.slice ax3 c.getters.length px3) ∧ w'.cell? ⟨w4.heap.size, 4, none⟩ = some (.bool c.closed) ∧ w'.cell? ⟨w.heap.size, 0, none⟩ = some (.int .i64 c.room) ∧ w'.cell? ⟨w.heap.size, 1, none⟩ = some (.slice aA1 c.items.length pA1) ∧ w'.cell? ⟨w.heap.size, 2, none⟩ = some (.slice aA2 c.senders.length pA2) ∧ w'.cell? ⟨w.heap.size, 3, none⟩ = some (.slice aA3 c.getters.length pA3) ∧ w'.cell? ⟨w.heap.size, 4, none⟩ = some (.bool c.closed)) (go_keep)
      (first
        | (go_at_call 25; refine (toChan_calls _ c _ (ChanRow.below HA.out B6.out.drew) hsz2).mono ?_; rintro e w7 ⟨vu, rfl, ho_u, hb⟩; have B7 := Lib.hid (Below.trans B6.out.drew (hb.mono (by first | omega | (simp only [szA, szS, szD, World.heap_drewN] at * <;> omega))) : Below w.heap.size w w7); have Z7 := hb.size; have N7 : w6.heap.size ≤ w7.heap.size := (by first | exact Z7 | (simp only [szA, szD] at Z7; omega)); clear Z7; have XA_7 := Lib.hid (below_at hb (heap_drew XA_6.out)); have Xx_7 := Lib.hid (below_at hb (heap_drew Xx_6.out)); have Owy_7 := Lib.hid ((Owy_6.out.drew).kept hb); have Ox_7 := Lib.hid ((Ox_6.out.drew).kept hb); have Ogy_7 := Lib.hid ((Ogy_6.out.drew).kept hb); have Ou_7 := Lib.hid (ho_u.mono (lo' := w6.heap.size) (by first | omega | (simp only [szA, szS, szD, World.heap_drewN] at * <;> omega)) (Nat.le_refl _)); obtain ⟨au1, pu1, au2, pu2, au3, pu3, rfl, hx_u⟩ := ho_u; clear hx_u; clear hb; obtain ⟨cA70, cA71, cA72, cA73, cA74, fA70, fA71, fA72, fA73, fA74⟩ := box5 XA_7.out; have lA7 := heap_lt XA_7.out; obtain ⟨cx70, cx71, cx72, cx73, cx74, fx70, fx71, fx72, fx73, fx74⟩ := box5 Xx_7.out; have lx7 := heap_lt Xx_7.out)
        | (go_at_call 16; refine (eqChan_calls _ _ c c _ (Ox_7.out.row) (Ou_7.out.row)).mono ?_; rw [decide_eq_true rfl]; rintro e w8 ⟨rfl, hb⟩; have B8 := Lib.hid (Below.trans B7.out (hb.mono (by first | omega | (simp only [szA, szS, szD, World.heap_drewN] at * <;> omega))) : Below w.heap.size w w8); have Z8 := hb.size; have N8 : w7.heap.size ≤ w8.heap.size := (by first | exact Z8 | (simp only [szA, szD] at Z8; omega)); clear Z8; have XA_8 := Lib.hid (below_at hb XA_7.out); have Xx_8 := Lib.hid (below_at hb Xx_7.out); have Owy_8 := Lib.hid (Owy_7.out.kept hb); have Ox_8 := Lib.hid (Ox_7.out.kept hb); have Ogy_8 := Lib.hid (Ogy_7.out.kept hb); have Ou_8 := Lib.hid (Ou_7.out.kept hb); clear hb; obtain ⟨cA80, cA81, cA82, cA83, cA84, fA80, fA81, fA82, fA83, fA84⟩ := box5 XA_8.out; have lA8 := heap_lt XA_8.out; obtain ⟨cx80, cx81, cx82, cx83, cx84, fx80, fx81, fx82, fx83, fx84⟩ := box5 Xx_8.out; have lx8 := heap_lt Xx_8.out)
      )
    clear cA60 cA61 cA62 cA63 cA64 fA60 fA61 fA62 fA63 fA64 cx60 cx61 cx62 cx63 cx64 fx60 fx61 fx62 fx63 fx64
    go_wp2_with (fail)
    refine (markChan_calls _ _ _ c (1) _ Ox_8.out (by omega) (by omega) (by omega)).mono ?_
    rintro e w9 ⟨rfl, ho, hs, ht⟩
    have B9 := Lib.hid (Below.trans B8.out (hs.below (by first | omega | (simp only [szA, szS, szD, World.heap_drewN] at * <;> omega)) (by first | omega | (simp only [szA, szS, szD, World.heap_drewN] at * <;> omega))) : Below w.heap.size w w9); have Z9 := hs.size
    have N9 : w8.heap.size ≤ w9.heap.size := (by first | exact Z9 | (simp only [szA, szD] at Z9; omega))
    clear Z9
    have XA_9 := Lib.hid (hs.box XA_8.out (by first | omega | (simp only [szA, szS, szD, World.heap_drewN] at * <;> omega)))
    have Xx_9 := Lib.hid (hs.box Xx_8.out (by first | omega | (simp only [szA, szS, szD, World.heap_drewN] at * <;> omega)))
    have Owy_9 := Lib.hid (Owy_8.out.span hs (by first | omega | (simp only [szA, szS, szD, World.heap_drewN] at * <;> omega)))
    have Ox_9 := Lib.hid ho
    have Ogy_9 := Lib.hid (Ogy_8.out.span hs (by first | omega | (simp only [szA, szS, szD, World.heap_drewN] at * <;> omega)))
    clear hs ho ht
    obtain ⟨cA90, cA91, cA92, cA93, cA94, fA90, fA91, fA92, fA93, fA94⟩ := box5 XA_9.out; have lA9 := heap_lt XA_9.out
    obtain ⟨cx90, cx91, cx92, cx93, cx94, fx90, fx91, fx92, fx93, fx94⟩ := box5 Xx_9.out; have lx9 := heap_lt Xx_9.out
    clear cA80 cA81 cA82 cA83 cA84 fA80 fA81 fA82 fA83 fA84 cx80 cx81 cx82 cx83 cx84 fx80 fx81 fx82 fx83 fx84
    go_wp2_with (fail)
    refine (eqIntS_calls _ _ y y _ (Ogy_9.out.row) (Owy_9.out.row)).mono ?_
    rw [decide_eq_true rfl]
    rintro e w10 ⟨rfl, hb⟩
    have B10 := Lib.hid (Below.trans B9.out (hb.mono (by first | omega | (simp only [szA, szS, szD, World.heap_drewN] at * <;> omega))) : Below w.heap.size w w10); have Z10 := hb.size
    have N10 : w9.heap.size ≤ w10.heap.size := (by first | exact Z10 | (simp only [szA, szD] at Z10; omega))
    clear Z10
    have XA_10 := Lib.hid (below_at hb XA_9.out)
    have Xx_10 := Lib.hid (below_at hb Xx_9.out)
    have Owy_10 := Lib.hid (Owy_9.out.kept hb)
    have Ox_10 := Lib.hid (Ox_9.out.kept hb)
    have Ogy_10 := Lib.hid (Ogy_9.out.kept hb)
    clear hb
    obtain ⟨cA100, cA101, cA102, cA103, cA104, fA100, fA101, fA102, fA103, fA104⟩ := box5 XA_10.out; have lA10 := heap_lt XA_10.out
    obtain ⟨cx100, cx101, cx102, cx103, cx104, fx100, fx101, fx102, fx103, fx104⟩ := box5 Xx_10.out; have lx10 := heap_lt Xx_10.out
    clear cA90 cA91 cA92 cA93 cA94 fA90 fA91 fA92 fA93 fA94 cx90 cx91 cx92 cx93 cx94 fx90 fx91 fx92 fx93 fx94
    go_wp2_with (fail)
    refine (markIntSO _ _ _ y (1) _ Ogy_10.out (by omega) (by omega) (by omega)).mono ?_
    rintro e w11 ⟨rfl, ho, hs, ht⟩
    have B11 := Lib.hid (Below.trans B10.out (hs.below (by first | omega | (simp only [szA, szS, szD, World.heap_drewN] at * <;> omega)) (by first | omega | (simp only [szA, szS, szD, World.heap_drewN] at * <;> omega))) : Below w.heap.size w w11); have Z11 := hs.size
    have N11 : w10.heap.size ≤ w11.heap.size := (by first | exact Z11 | (simp only [szA, szD] at Z11; omega))
    clear Z11
    have XA_11 := Lib.hid (hs.box XA_10.out (by first | omega | (simp only [szA, szS, szD, World.heap_drewN] at * <;> omega)))
    have Xx_11 := Lib.hid (hs.box Xx_10.out (by first | omega | (simp only [szA, szS, szD, World.heap_drewN] at * <;> omega)))
    have Owy_11 := Lib.hid (Owy_10.out.span hs (by first | omega | (simp only [szA, szS, szD, World.heap_drewN] at * <;> omega)))
    have Ox_11 := Lib.hid (Ox_10.out.span hs (by first | omega | (simp only [szA, szS, szD, World.heap_drewN] at * <;> omega)))
    have Ogy_11 := Lib.hid ho
    clear hs ho ht
    obtain ⟨cA110, cA111, cA112, cA113, cA114, fA110, fA111, fA112, fA113, fA114⟩ := box5 XA_11.out; have lA11 := heap_lt XA_11.out
    obtain ⟨cx110, cx111, cx112, cx113, cx114, fx110, fx111, fx112, fx113, fx114⟩ := box5 Xx_11.out; have lx11 := heap_lt Xx_11.out
    clear cA100 cA101 cA102 cA103 cA104 fA100 fA101 fA102 fA103 fA104 cx100 cx101 cx102 cx103 cx104 fx100 fx101 fx102 fx103 fx104
    go_wp2_with (fail)
    refine (heldIntS_calls _ y.length (1) _ (Ogy_11.out.row) (by omega) (by omega) (by omega)).mono ?_
    rintro e w12 ⟨rfl, hb⟩
    have B12 := Lib.hid (Below.trans B11.out (hb.mono (by first | omega | (simp only [szA, szS, szD, World.heap_drewN] at * <;> omega))) : Below w.heap.size w w12); have Z12 := hb.size
    have N12 : w11.heap.size ≤ w12.heap.size := (by first | exact Z12 | (simp only [szA, szD] at Z12; omega))
    clear Z12
    have XA_12 := Lib.hid (below_at hb XA_11.out)
    have Xx_12 := Lib.hid (below_at hb Xx_11.out)
    have Owy_12 := Lib.hid (Owy_11.out.kept hb)
    have Ox_12 := Lib.hid (Ox_11.out.kept hb)
    have Ogy_12 := Lib.hid (Ogy_11.out.kept hb)
    clear hb
    obtain ⟨cA120, cA121, cA122, cA123, cA124, fA120, fA121, fA122, fA123, fA124⟩ := box5 XA_12.out; have lA12 := heap_lt XA_12.out
    obtain ⟨cx120, cx121, cx122, cx123, cx124, fx120, fx121, fx122, fx123, fx124⟩ := box5 Xx_12.out; have lx12 := heap_lt Xx_12.out
    clear cA110 cA111 cA112 cA113 cA114 fA110 fA111 fA112 fA113 fA114 cx110 cx111 cx112 cx113 cx114 fx110 fx111 fx112 fx113 fx114
    go_wp2_with (fail)
    refine (toChan_calls _ c _ (ChanRow.below HA.out B12.out) hsz2).mono ?_
    rintro e w13 ⟨vz, rfl, ho_z, hb⟩
    have B13 := Lib.hid (Below.trans B12.out (hb.mono (by first | omega | (simp only [szA, szS, szD, World.heap_drewN] at * <;> omega))) : Below w.heap.size w w13); have Z13 := hb.size
    have N13 : w12.heap.size ≤ w13.heap.size := (by first | exact Z13 | (simp only [szA, szD] at Z13; omega))
    clear Z13
    have XA_13 := Lib.hid (below_at hb XA_12.out)
    have Xx_13 := Lib.hid (below_at hb Xx_12.out)
    have Owy_13 := Lib.hid (Owy_12.out.kept hb)
    have Ox_13 := Lib.hid (Ox_12.out.kept hb)
    have Ogy_13 := Lib.hid (Ogy_12.out.kept hb)
    have Oz_13 := Lib.hid (ho_z.mono (lo' := w12.heap.size) (by first | omega | (simp only [szA, szS, szD, World.heap_drewN] at * <;> omega)) (Nat.le_refl _)); obtain ⟨az1, pz1, az2, pz2, az3, pz3, rfl, hx_z⟩ := ho_z; clear hx_z
    clear hb
    obtain ⟨cA130, cA131, cA132, cA133, cA134, fA130, fA131, fA132, fA133, fA134⟩ := box5 XA_13.out; have lA13 := heap_lt XA_13.out
    obtain ⟨cx130, cx131, cx132, cx133, cx134, fx130, fx131, fx132, fx133, fx134⟩ := box5 Xx_13.out; have lx13 := heap_lt Xx_13.out
    clear cA120 cA121 cA122 cA123 cA124 fA120 fA121 fA122 fA123 fA124 cx120 cx121 cx122 cx123 cx124 fx120 fx121 fx122 fx123 fx124
    go_wp2_with (fail)
    refine (PendingOfO _ c y b1 _ (Oz_13.out.row) hsz2 HR.out).mono ?_
    rintro e w14 ⟨vhy, rfl, ho_hy, hb⟩
    have B14 := Lib.hid (Below.trans B13.out (hb.mono (by first | omega | (simp only [szA, szS, szD, World.heap_drewN] at * <;> omega))) : Below w.heap.size w w14); have Z14 := hb.size
    have N14 : w13.heap.size ≤ w14.heap.size := (by first | exact Z14 | (simp only [szA, szD] at Z14; omega))
    clear Z14
    have XA_14 := Lib.hid (below_at hb XA_13.out)
    have Xx_14 := Lib.hid (below_at hb Xx_13.out)
    have Owy_14 := Lib.hid (Owy_13.out.kept hb)
    have Ox_14 := Lib.hid (Ox_13.out.kept hb)
    have Ogy_14 := Lib.hid (Ogy_13.out.kept hb)
    have Oz_14 := Lib.hid (Oz_13.out.kept hb)
    have Ohy_14 := Lib.hid (ho_hy.mono (lo' := w13.heap.size) (by first | omega | (simp only [szA, szS, szD, World.heap_drewN] at * <;> omega)) (Nat.le_refl _)); obtain ⟨ahy, phy, rfl, hx_hy⟩ := ho_hy; clear hx_hy
    clear hb
    obtain ⟨cA140, cA141, cA142, cA143, cA144, fA140, fA141, fA142, fA143, fA144⟩ := box5 XA_14.out; have lA14 := heap_lt XA_14.out
    obtain ⟨cx140, cx141, cx142, cx143, cx144, fx140, fx141, fx142, fx143, fx144⟩ := box5 Xx_14.out; have lx14 := heap_lt Xx_14.out
    clear cA130 cA131 cA132 cA133 cA134 fA130 fA131 fA132 fA133 fA134 cx130 cx131 cx132 cx133 cx134 fx130 fx131 fx132 fx133 fx134
    go_wp2_with (fail)
    refine (eqIntS_calls _ _ y y _ (Ohy_14.out.row) (Owy_14.out.row)).mono ?_
    rw [decide_eq_true rfl]
    rintro e w15 ⟨rfl, hb⟩
    have B15 := Lib.hid (Below.trans B14.out (hb.mono (by first | omega | (simp only [szA, szS, szD, World.heap_drewN] at * <;> omega))) : Below w.heap.size w w15); have Z15 := hb.size
    have N15 : w14.heap.size ≤ w15.heap.size := (by first | exact Z15 | (simp only [szA, szD] at Z15; omega))
    clear Z15
    have XA_15 := Lib.hid (below_at hb XA_14.out)
    have Xx_15 := Lib.hid (below_at hb Xx_14.out)
    have Owy_15 := Lib.hid (Owy_14.out.kept hb)
    have Ox_15 := Lib.hid (Ox_14.out.kept hb)
    have Ogy_15 := Lib.hid (Ogy_14.out.kept hb)
    have Ohy_15 := Lib.hid (Ohy_14.out.kept hb)
    clear hb
    obtain ⟨cA150, cA151, cA152, cA153, cA154, fA150, fA151, fA152, fA153, fA154⟩ := box5 XA_15.out; have lA15 := heap_lt XA_15.out
    obtain ⟨cx150, cx151, cx152, cx153, cx154, fx150, fx151, fx152, fx153, fx154⟩ := box5 Xx_15.out; have lx15 := heap_lt Xx_15.out
    clear cA140 cA141 cA142 cA143 cA144 fA140 fA141 fA142 fA143 fA144 cx140 cx141 cx142 cx143 cx144 fx140 fx141 fx142 fx143 fx144
    go_wp2_with (fail)
    refine (heldIntS_calls _ y.length (1) _ (Ogy_15.out.row) (by omega) (by omega) (by omega)).mono ?_
    rintro e w16 ⟨rfl, hb⟩
    have B16 := Lib.hid (Below.trans B15.out (hb.mono (by first | omega | (simp only [szA, szS, szD, World.heap_drewN] at * <;> omega))) : Below w.heap.size w w16); have Z16 := hb.size
    have N16 : w15.heap.size ≤ w16.heap.size := (by first | exact Z16 | (simp only [szA, szD] at Z16; omega))
    clear Z16
    have XA_16 := Lib.hid (below_at hb XA_15.out)
    have Xx_16 := Lib.hid (below_at hb Xx_15.out)
    have Owy_16 := Lib.hid (Owy_15.out.kept hb)
    have Ox_16 := Lib.hid (Ox_15.out.kept hb)
    have Ogy_16 := Lib.hid (Ogy_15.out.kept hb)
    have Ohy_16 := Lib.hid (Ohy_15.out.kept hb)
    clear hb
    obtain ⟨cA160, cA161, cA162, cA163, cA164, fA160, fA161, fA162, fA163, fA164⟩ := box5 XA_16.out; have lA16 := heap_lt XA_16.out
    obtain ⟨cx160, cx161, cx162, cx163, cx164, fx160, fx161, fx162, fx163, fx164⟩ := box5 Xx_16.out; have lx16 := heap_lt Xx_16.out
    clear cA150 cA151 cA152 cA153 cA154 fA150 fA151 fA152 fA153 fA154 cx150 cx151 cx152 cx153 cx154 fx150 fx151 fx152 fx153 fx154
    go_wp2
    go_ret
    exact ⟨rfl, B16.out⟩
  · rw [szF_neg hsz]
    go_wp2
    go_ret
    exact ⟨rfl, B1.out⟩
end Go.Proofs.Ytpgiinklbnlloaa
