/- FnExactEnterOnce: the law's walk (made by exact.py). -/
import Derived.Test.YtmmkbiljjhigfaaOnceEnterI
import Derived.Test.YtmmkbiljjhigfaaOnceEnterS
namespace Go.Proofs.Ytmmkbiljjhigfaa
open Go.RowKit
set_option linter.unusedSimpArgs false
set_option linter.unusedVariables false
set_option maxHeartbeats 8000000 in
theorem FnExactEnterOnce_calls (v : Value) (c : OnceD) (t : Int) (w : World) (h : OnceRow w v c) :
    Calls Try.prog 6 #[v, .int .i64 t] w fun e w' => e = .returned (.bool true) ∧ Below w.heap.size w w' := by
  have HA := Lib.hid h
  obtain ⟨aA3, pA3, rfl, h⟩ := h
  clear h
  obtain ⟨r, i1, b1, hr⟩ : ∃ (r : OnceD) (i1 : Int) (b1 : Bool), enter c t = (r, i1, b1) := ⟨_, _, _, rfl⟩
  have HR := Lib.hid hr; clear hr
  go_enter Try.func6, Try.ntmps6
  go_wp2_with (fail)
  refine (szOnce_calls _ c 1048576 _ (OnceRow.below HA.out (Below.alloc (Below.refl _ _) (by first | omega | (simp only [szA, szS, szD, World.heap_drewN] at * <;> omega)) _)) (by omega) (by omega)).mono ?_
  rintro e w1 ⟨rfl, hb⟩
  have B1 := Lib.hid (Below.trans (Below.alloc (Below.refl _ _) (by first | omega | (simp only [szA, szS, szD, World.heap_drewN] at * <;> omega)) _) (hb.mono (by first | omega | (simp only [szA, szS, szD, World.heap_drewN] at * <;> omega))) : Below w.heap.size w w1); have Z1 := hb.size
  have N1 : w.heap.size + 1 ≤ w1.heap.size := (by first | exact Z1 | (simp only [szA, szD] at Z1; omega))
  clear Z1
  have XA_1 : Hid (w1.heap[w.heap.size]? = some (.cells #[.int .i64 c.state, .int .i64 c.owner, .int .i64 c.value, .slice aA3 c.waits.length pA3] 34 (0, 0))) := below_at hb (heap_at' (n := w.heap.size) (by first | omega | (simp only [szA, szS, szD, World.heap_drewN] at * <;> omega)))
  clear hb
  obtain ⟨cA10, cA11, cA12, cA13, fA10, fA11, fA12, fA13⟩ := box4 XA_1.out; have lA1 := heap_lt XA_1.out
  by_cases hsz : ((c.waits.length : Nat) : Int) ≤ 1048576
  · rw [szF_pos hsz]
    have hsz2 : c.waits.length ≤ 1048576 := by omega
    clear hsz
    have hrs := enter_small HR.out
    go_wp2_with (fail)
    refine (toOnce_calls _ c _ (OnceRow.below HA.out B1.out) hsz2).mono ?_
    rintro e w2 ⟨vt, rfl, ho_t, hb⟩
    have B2 := Lib.hid (Below.trans B1.out (hb.mono (by first | omega | (simp only [szA, szS, szD, World.heap_drewN] at * <;> omega))) : Below w.heap.size w w2); have Z2 := hb.size
    have N2 : w1.heap.size ≤ w2.heap.size := (by first | exact Z2 | (simp only [szA, szD] at Z2; omega))
    clear Z2
    have XA_2 := Lib.hid (below_at hb XA_1.out)
    have Ot_2 := Lib.hid (ho_t.mono (lo' := w1.heap.size) (by first | omega | (simp only [szA, szS, szD, World.heap_drewN] at * <;> omega)) (Nat.le_refl _)); obtain ⟨at3, pt3, rfl, hx_t⟩ := ho_t; clear hx_t
    clear hb
    obtain ⟨cA20, cA21, cA22, cA23, fA20, fA21, fA22, fA23⟩ := box4 XA_2.out; have lA2 := heap_lt XA_2.out
    clear cA10 cA11 cA12 cA13 fA10 fA11 fA12 fA13
    go_wp2_with (fail)
    refine (sEnterOnceO _ c t r i1 b1 _ (Ot_2.out.row) HR.out).mono ?_
    rintro e w3 ⟨vwr, rfl, ho_wr, hb⟩
    have B3 := Lib.hid (Below.trans B2.out (hb.mono (by first | omega | (simp only [szA, szS, szD, World.heap_drewN] at * <;> omega))) : Below w.heap.size w w3); have Z3 := hb.size
    have N3 : w2.heap.size ≤ w3.heap.size := (by first | exact Z3 | (simp only [szA, szD] at Z3; omega))
    clear Z3
    have XA_3 := Lib.hid (below_at hb XA_2.out)
    have Ot_3 := Lib.hid (Ot_2.out.kept hb)
    have Owr_3 := Lib.hid (ho_wr.mono (lo' := w2.heap.size) (by first | omega | (simp only [szA, szS, szD, World.heap_drewN] at * <;> omega)) (Nat.le_refl _)); obtain ⟨awr3, pwr3, rfl, hx_wr⟩ := ho_wr; clear hx_wr
    clear hb
    obtain ⟨cA30, cA31, cA32, cA33, fA30, fA31, fA32, fA33⟩ := box4 XA_3.out; have lA3 := heap_lt XA_3.out
    clear cA20 cA21 cA22 cA23 fA20 fA21 fA22 fA23
    go_wp2_with (fail)
    refine (toOnce_calls _ c _ (OnceRow.below HA.out (Below.alloc B3.out (by first | omega | (simp only [szA, szS, szD, World.heap_drewN] at * <;> omega)) _)) hsz2).mono ?_
    rintro e w4 ⟨vx, rfl, ho_x, hb⟩
    have B4 := Lib.hid (Below.trans (Below.alloc B3.out (by first | omega | (simp only [szA, szS, szD, World.heap_drewN] at * <;> omega)) _) (hb.mono (by first | omega | (simp only [szA, szS, szD, World.heap_drewN] at * <;> omega))) : Below w.heap.size w w4); have Z4 := hb.size
    have N4 : w3.heap.size + 1 ≤ w4.heap.size := (by first | exact Z4 | (simp only [szA, szD] at Z4; omega))
    clear Z4
    have XA_4 := Lib.hid (below_at hb (heap_up XA_3.out))
    have Xwr_4 : Hid (w4.heap[w3.heap.size]? = some (.cells #[.int .i64 r.state, .int .i64 r.owner, .int .i64 r.value, .slice awr3 r.waits.length pwr3] 25 (0, 0))) := below_at hb (heap_at' (n := w3.heap.size) (by first | omega | (simp only [szA, szS, szD, World.heap_drewN] at * <;> omega)))
    have Owr_4 := Lib.hid ((Owr_3.out.alloc _).kept hb)
    have Ox_4 := Lib.hid (ho_x.mono (lo' := w3.heap.size + 1) (by first | omega | (simp only [szA, szS, szD, World.heap_drewN] at * <;> omega)) (Nat.le_refl _)); obtain ⟨ax3, px3, rfl, hx_x⟩ := ho_x; clear hx_x
    clear hb
    obtain ⟨cA40, cA41, cA42, cA43, fA40, fA41, fA42, fA43⟩ := box4 XA_4.out; have lA4 := heap_lt XA_4.out
    obtain ⟨cwr40, cwr41, cwr42, cwr43, fwr40, fwr41, fwr42, fwr43⟩ := box4 Xwr_4.out; have lwr4 := heap_lt Xwr_4.out
    clear cA30 cA31 cA32 cA33 fA30 fA31 fA32 fA33
    go_wp2_with (fail)
    refine (EnterOnceO _ c t r i1 b1 _ ((Ox_4.out.alloc _).row) HR.out).mono ?_
    rintro e w5 ⟨vgr, rfl, ho_gr, hb⟩
    have B5 := Lib.hid (Below.trans (Below.alloc B4.out (by first | omega | (simp only [szA, szS, szD, World.heap_drewN] at * <;> omega)) _) (hb.mono (by first | omega | (simp only [szA, szS, szD, World.heap_drewN] at * <;> omega))) : Below w.heap.size w w5); have Z5 := hb.size
    have N5 : w4.heap.size + 1 ≤ w5.heap.size := (by first | exact Z5 | (simp only [szA, szD] at Z5; omega))
    clear Z5
    have XA_5 := Lib.hid (below_at hb (heap_up XA_4.out))
    have Xwr_5 := Lib.hid (below_at hb (heap_up Xwr_4.out))
    have Xx_5 : Hid (w5.heap[w4.heap.size]? = some (.cells #[.int .i64 c.state, .int .i64 c.owner, .int .i64 c.value, .slice ax3 c.waits.length px3] 25 (0, 0))) := below_at hb (heap_at' (n := w4.heap.size) (by first | omega | (simp only [szA, szS, szD, World.heap_drewN] at * <;> omega)))
    have Owr_5 := Lib.hid ((Owr_4.out.alloc _).kept hb)
    have Ox_5 := Lib.hid ((Ox_4.out.alloc _).kept hb)
    have Ogr_5 := Lib.hid (ho_gr.mono (lo' := w4.heap.size + 1) (by first | omega | (simp only [szA, szS, szD, World.heap_drewN] at * <;> omega)) (Nat.le_refl _)); obtain ⟨agr3, pgr3, rfl, hx_gr⟩ := ho_gr; clear hx_gr
    clear hb
    obtain ⟨cA50, cA51, cA52, cA53, fA50, fA51, fA52, fA53⟩ := box4 XA_5.out; have lA5 := heap_lt XA_5.out
    obtain ⟨cwr50, cwr51, cwr52, cwr53, fwr50, fwr51, fwr52, fwr53⟩ := box4 Xwr_5.out; have lwr5 := heap_lt Xwr_5.out
    obtain ⟨cx50, cx51, cx52, cx53, fx50, fx51, fx52, fx53⟩ := box4 Xx_5.out; have lx5 := heap_lt Xx_5.out
    clear cA40 cA41 cA42 cA43 fA40 fA41 fA42 fA43 cwr40 cwr41 cwr42 cwr43 fwr40 fwr41 fwr42 fwr43
    go_wp2_with (fail)
    refine (eqOnce_calls _ _ r r _ ((Ogr_5.out.alloc _).row) ((Owr_5.out.alloc _).row)).mono ?_
    rw [decide_eq_true rfl]
    rintro e w6 ⟨rfl, hb⟩
    have B6 := Lib.hid (Below.trans (Below.alloc B5.out (by first | omega | (simp only [szA, szS, szD, World.heap_drewN] at * <;> omega)) _) (hb.mono (by first | omega | (simp only [szA, szS, szD, World.heap_drewN] at * <;> omega))) : Below w.heap.size w w6); have Z6 := hb.size
    have N6 : w5.heap.size + 1 ≤ w6.heap.size := (by first | exact Z6 | (simp only [szA, szD] at Z6; omega))
    clear Z6
    have XA_6 := Lib.hid (below_at hb (heap_up XA_5.out))
    have Xwr_6 := Lib.hid (below_at hb (heap_up Xwr_5.out))
    have Xx_6 := Lib.hid (below_at hb (heap_up Xx_5.out))
    have Xgr_6 : Hid (w6.heap[w5.heap.size]? = some (.cells #[.int .i64 r.state, .int .i64 r.owner, .int .i64 r.value, .slice agr3 r.waits.length pgr3] 25 (0, 0))) := below_at hb (heap_at' (n := w5.heap.size) (by first | omega | (simp only [szA, szS, szD, World.heap_drewN] at * <;> omega)))
    have Owr_6 := Lib.hid ((Owr_5.out.alloc _).kept hb)
    have Ox_6 := Lib.hid ((Ox_5.out.alloc _).kept hb)
    have Ogr_6 := Lib.hid ((Ogr_5.out.alloc _).kept hb)
    clear hb
    obtain ⟨cA60, cA61, cA62, cA63, fA60, fA61, fA62, fA63⟩ := box4 XA_6.out; have lA6 := heap_lt XA_6.out
    obtain ⟨cwr60, cwr61, cwr62, cwr63, fwr60, fwr61, fwr62, fwr63⟩ := box4 Xwr_6.out; have lwr6 := heap_lt Xwr_6.out
    obtain ⟨cx60, cx61, cx62, cx63, fx60, fx61, fx62, fx63⟩ := box4 Xx_6.out; have lx6 := heap_lt Xx_6.out
    obtain ⟨cgr60, cgr61, cgr62, cgr63, fgr60, fgr61, fgr62, fgr63⟩ := box4 Xgr_6.out; have lgr6 := heap_lt Xgr_6.out
    clear cA50 cA51 cA52 cA53 fA50 fA51 fA52 fA53 cwr50 cwr51 cwr52 cwr53 fwr50 fwr51 fwr52 fwr53 cx50 cx51 cx52 cx53 fx50 fx51 fx52 fx53
    go_wp2_with (fail)
    go_region_held3 (fun w' => w'.cell? ⟨w4.heap.size, 0, none⟩ = some (.int .i64 c.state) ∧ w'.cell? ⟨w4.heap.size, 1, none⟩ = some (.int .i64 c.owner) ∧ w'.cell? ⟨w4.heap.size, 2, none⟩ = some (.int .i64 c.value) ∧ w'.cell? ⟨w4.heap.size, 3, none⟩ = some (.slice ax3 c.waits.length px3) ∧ w'.cell? ⟨w.heap.size, 0, none⟩ = some (.int .i64 c.state) ∧ w'.cell? ⟨w.heap.size, 1, none⟩ = some (.int .i64 c.owner) ∧ w'.cell? ⟨w.heap.size, 2, none⟩ = some (.int .i64 c.value) ∧ w'.cell? ⟨w.heap.size, 3, none⟩ = some (.slice aA3 c.waits.length pA3)) (go_keep)
      (first
        | (go_at_call 21; refine (toOnce_calls _ c _ (OnceRow.below HA.out B6.out.drew) hsz2).mono ?_; rintro e w7 ⟨vu, rfl, ho_u, hb⟩; have B7 := Lib.hid (Below.trans B6.out.drew (hb.mono (by first | omega | (simp only [szA, szS, szD, World.heap_drewN] at * <;> omega))) : Below w.heap.size w w7); have Z7 := hb.size; have N7 : w6.heap.size ≤ w7.heap.size := (by first | exact Z7 | (simp only [szA, szD] at Z7; omega)); clear Z7; have XA_7 := Lib.hid (below_at hb (heap_drew XA_6.out)); have Xwr_7 := Lib.hid (below_at hb (heap_drew Xwr_6.out)); have Xx_7 := Lib.hid (below_at hb (heap_drew Xx_6.out)); have Xgr_7 := Lib.hid (below_at hb (heap_drew Xgr_6.out)); have Owr_7 := Lib.hid ((Owr_6.out.drew).kept hb); have Ox_7 := Lib.hid ((Ox_6.out.drew).kept hb); have Ogr_7 := Lib.hid ((Ogr_6.out.drew).kept hb); have Ou_7 := Lib.hid (ho_u.mono (lo' := w6.heap.size) (by first | omega | (simp only [szA, szS, szD, World.heap_drewN] at * <;> omega)) (Nat.le_refl _)); obtain ⟨au3, pu3, rfl, hx_u⟩ := ho_u; clear hx_u; clear hb; obtain ⟨cA70, cA71, cA72, cA73, fA70, fA71, fA72, fA73⟩ := box4 XA_7.out; have lA7 := heap_lt XA_7.out; obtain ⟨cwr70, cwr71, cwr72, cwr73, fwr70, fwr71, fwr72, fwr73⟩ := box4 Xwr_7.out; have lwr7 := heap_lt Xwr_7.out; obtain ⟨cx70, cx71, cx72, cx73, fx70, fx71, fx72, fx73⟩ := box4 Xx_7.out; have lx7 := heap_lt Xx_7.out; obtain ⟨cgr70, cgr71, cgr72, cgr73, fgr70, fgr71, fgr72, fgr73⟩ := box4 Xgr_7.out; have lgr7 := heap_lt Xgr_7.out)
        | (go_at_call 22; refine (eqOnce_calls _ _ c c _ (Ox_7.out.row) (Ou_7.out.row)).mono ?_; rw [decide_eq_true rfl]; rintro e w8 ⟨rfl, hb⟩; have B8 := Lib.hid (Below.trans B7.out (hb.mono (by first | omega | (simp only [szA, szS, szD, World.heap_drewN] at * <;> omega))) : Below w.heap.size w w8); have Z8 := hb.size; have N8 : w7.heap.size ≤ w8.heap.size := (by first | exact Z8 | (simp only [szA, szD] at Z8; omega)); clear Z8; have XA_8 := Lib.hid (below_at hb XA_7.out); have Xwr_8 := Lib.hid (below_at hb Xwr_7.out); have Xx_8 := Lib.hid (below_at hb Xx_7.out); have Xgr_8 := Lib.hid (below_at hb Xgr_7.out); have Owr_8 := Lib.hid (Owr_7.out.kept hb); have Ox_8 := Lib.hid (Ox_7.out.kept hb); have Ogr_8 := Lib.hid (Ogr_7.out.kept hb); have Ou_8 := Lib.hid (Ou_7.out.kept hb); clear hb; obtain ⟨cA80, cA81, cA82, cA83, fA80, fA81, fA82, fA83⟩ := box4 XA_8.out; have lA8 := heap_lt XA_8.out; obtain ⟨cwr80, cwr81, cwr82, cwr83, fwr80, fwr81, fwr82, fwr83⟩ := box4 Xwr_8.out; have lwr8 := heap_lt Xwr_8.out; obtain ⟨cx80, cx81, cx82, cx83, fx80, fx81, fx82, fx83⟩ := box4 Xx_8.out; have lx8 := heap_lt Xx_8.out; obtain ⟨cgr80, cgr81, cgr82, cgr83, fgr80, fgr81, fgr82, fgr83⟩ := box4 Xgr_8.out; have lgr8 := heap_lt Xgr_8.out)
      )
    clear cA60 cA61 cA62 cA63 fA60 fA61 fA62 fA63 cwr60 cwr61 cwr62 cwr63 fwr60 fwr61 fwr62 fwr63 cx60 cx61 cx62 cx63 fx60 fx61 fx62 fx63 cgr60 cgr61 cgr62 cgr63 fgr60 fgr61 fgr62 fgr63
    go_wp2_with (fail)
    refine (markOnce_calls _ _ _ c (1) _ Ox_8.out (by omega) (by omega) (by omega)).mono ?_
    rintro e w9 ⟨rfl, ho, hs, ht⟩
    have B9 := Lib.hid (Below.trans B8.out (hs.below (by first | omega | (simp only [szA, szS, szD, World.heap_drewN] at * <;> omega)) (by first | omega | (simp only [szA, szS, szD, World.heap_drewN] at * <;> omega))) : Below w.heap.size w w9); have Z9 := hs.size
    have N9 : w8.heap.size ≤ w9.heap.size := (by first | exact Z9 | (simp only [szA, szD] at Z9; omega))
    clear Z9
    have XA_9 := Lib.hid (hs.box XA_8.out (by first | omega | (simp only [szA, szS, szD, World.heap_drewN] at * <;> omega)))
    have Xwr_9 := Lib.hid (hs.box Xwr_8.out (by first | omega | (simp only [szA, szS, szD, World.heap_drewN] at * <;> omega)))
    have Xx_9 := Lib.hid (hs.box Xx_8.out (by first | omega | (simp only [szA, szS, szD, World.heap_drewN] at * <;> omega)))
    have Xgr_9 := Lib.hid (hs.box Xgr_8.out (by first | omega | (simp only [szA, szS, szD, World.heap_drewN] at * <;> omega)))
    have Owr_9 := Lib.hid (Owr_8.out.span hs (by first | omega | (simp only [szA, szS, szD, World.heap_drewN] at * <;> omega)))
    have Ox_9 := Lib.hid ho
    have Ogr_9 := Lib.hid (Ogr_8.out.span hs (by first | omega | (simp only [szA, szS, szD, World.heap_drewN] at * <;> omega)))
    clear hs ho ht
    obtain ⟨cA90, cA91, cA92, cA93, fA90, fA91, fA92, fA93⟩ := box4 XA_9.out; have lA9 := heap_lt XA_9.out
    obtain ⟨cwr90, cwr91, cwr92, cwr93, fwr90, fwr91, fwr92, fwr93⟩ := box4 Xwr_9.out; have lwr9 := heap_lt Xwr_9.out
    obtain ⟨cx90, cx91, cx92, cx93, fx90, fx91, fx92, fx93⟩ := box4 Xx_9.out; have lx9 := heap_lt Xx_9.out
    obtain ⟨cgr90, cgr91, cgr92, cgr93, fgr90, fgr91, fgr92, fgr93⟩ := box4 Xgr_9.out; have lgr9 := heap_lt Xgr_9.out
    clear cA80 cA81 cA82 cA83 fA80 fA81 fA82 fA83 cwr80 cwr81 cwr82 cwr83 fwr80 fwr81 fwr82 fwr83 cx80 cx81 cx82 cx83 fx80 fx81 fx82 fx83 cgr80 cgr81 cgr82 cgr83 fgr80 fgr81 fgr82 fgr83
    go_wp2_with (fail)
    refine (eqOnce_calls _ _ r r _ (Ogr_9.out.row) (Owr_9.out.row)).mono ?_
    rw [decide_eq_true rfl]
    rintro e w10 ⟨rfl, hb⟩
    have B10 := Lib.hid (Below.trans B9.out (hb.mono (by first | omega | (simp only [szA, szS, szD, World.heap_drewN] at * <;> omega))) : Below w.heap.size w w10); have Z10 := hb.size
    have N10 : w9.heap.size ≤ w10.heap.size := (by first | exact Z10 | (simp only [szA, szD] at Z10; omega))
    clear Z10
    have XA_10 := Lib.hid (below_at hb XA_9.out)
    have Xwr_10 := Lib.hid (below_at hb Xwr_9.out)
    have Xx_10 := Lib.hid (below_at hb Xx_9.out)
    have Xgr_10 := Lib.hid (below_at hb Xgr_9.out)
    have Owr_10 := Lib.hid (Owr_9.out.kept hb)
    have Ox_10 := Lib.hid (Ox_9.out.kept hb)
    have Ogr_10 := Lib.hid (Ogr_9.out.kept hb)
    clear hb
    obtain ⟨cA100, cA101, cA102, cA103, fA100, fA101, fA102, fA103⟩ := box4 XA_10.out; have lA10 := heap_lt XA_10.out
    obtain ⟨cwr100, cwr101, cwr102, cwr103, fwr100, fwr101, fwr102, fwr103⟩ := box4 Xwr_10.out; have lwr10 := heap_lt Xwr_10.out
    obtain ⟨cx100, cx101, cx102, cx103, fx100, fx101, fx102, fx103⟩ := box4 Xx_10.out; have lx10 := heap_lt Xx_10.out
    obtain ⟨cgr100, cgr101, cgr102, cgr103, fgr100, fgr101, fgr102, fgr103⟩ := box4 Xgr_10.out; have lgr10 := heap_lt Xgr_10.out
    clear cA90 cA91 cA92 cA93 fA90 fA91 fA92 fA93 cwr90 cwr91 cwr92 cwr93 fwr90 fwr91 fwr92 fwr93 cx90 cx91 cx92 cx93 fx90 fx91 fx92 fx93 cgr90 cgr91 cgr92 cgr93 fgr90 fgr91 fgr92 fgr93
    go_wp2_with (fail)
    refine (markOnce_calls _ _ _ r (1) _ Ogr_10.out (by omega) (by omega) (by omega)).mono ?_
    rintro e w11 ⟨rfl, ho, hs, ht⟩
    have B11 := Lib.hid (Below.trans B10.out (hs.below (by first | omega | (simp only [szA, szS, szD, World.heap_drewN] at * <;> omega)) (by first | omega | (simp only [szA, szS, szD, World.heap_drewN] at * <;> omega))) : Below w.heap.size w w11); have Z11 := hs.size
    have N11 : w10.heap.size ≤ w11.heap.size := (by first | exact Z11 | (simp only [szA, szD] at Z11; omega))
    clear Z11
    have XA_11 := Lib.hid (hs.box XA_10.out (by first | omega | (simp only [szA, szS, szD, World.heap_drewN] at * <;> omega)))
    have Xwr_11 := Lib.hid (hs.box Xwr_10.out (by first | omega | (simp only [szA, szS, szD, World.heap_drewN] at * <;> omega)))
    have Xx_11 := Lib.hid (hs.box Xx_10.out (by first | omega | (simp only [szA, szS, szD, World.heap_drewN] at * <;> omega)))
    have Xgr_11 := Lib.hid (hs.box Xgr_10.out (by first | omega | (simp only [szA, szS, szD, World.heap_drewN] at * <;> omega)))
    have Owr_11 := Lib.hid (Owr_10.out.span hs (by first | omega | (simp only [szA, szS, szD, World.heap_drewN] at * <;> omega)))
    have Ox_11 := Lib.hid (Ox_10.out.span hs (by first | omega | (simp only [szA, szS, szD, World.heap_drewN] at * <;> omega)))
    have Ogr_11 := Lib.hid ho
    clear hs ho ht
    obtain ⟨cA110, cA111, cA112, cA113, fA110, fA111, fA112, fA113⟩ := box4 XA_11.out; have lA11 := heap_lt XA_11.out
    obtain ⟨cwr110, cwr111, cwr112, cwr113, fwr110, fwr111, fwr112, fwr113⟩ := box4 Xwr_11.out; have lwr11 := heap_lt Xwr_11.out
    obtain ⟨cx110, cx111, cx112, cx113, fx110, fx111, fx112, fx113⟩ := box4 Xx_11.out; have lx11 := heap_lt Xx_11.out
    obtain ⟨cgr110, cgr111, cgr112, cgr113, fgr110, fgr111, fgr112, fgr113⟩ := box4 Xgr_11.out; have lgr11 := heap_lt Xgr_11.out
    clear cA100 cA101 cA102 cA103 fA100 fA101 fA102 fA103 cwr100 cwr101 cwr102 cwr103 fwr100 fwr101 fwr102 fwr103 cx100 cx101 cx102 cx103 fx100 fx101 fx102 fx103 cgr100 cgr101 cgr102 cgr103 fgr100 fgr101 fgr102 fgr103
    go_wp2_with (fail)
    refine (heldOnce_calls _ r (1) _ (Ogr_11.out.row) (by omega) (by omega) (by omega)).mono ?_
    rintro e w12 ⟨rfl, hb⟩
    have B12 := Lib.hid (Below.trans B11.out (hb.mono (by first | omega | (simp only [szA, szS, szD, World.heap_drewN] at * <;> omega))) : Below w.heap.size w w12); have Z12 := hb.size
    have N12 : w11.heap.size ≤ w12.heap.size := (by first | exact Z12 | (simp only [szA, szD] at Z12; omega))
    clear Z12
    have XA_12 := Lib.hid (below_at hb XA_11.out)
    have Xwr_12 := Lib.hid (below_at hb Xwr_11.out)
    have Xx_12 := Lib.hid (below_at hb Xx_11.out)
    have Xgr_12 := Lib.hid (below_at hb Xgr_11.out)
    have Owr_12 := Lib.hid (Owr_11.out.kept hb)
    have Ox_12 := Lib.hid (Ox_11.out.kept hb)
    have Ogr_12 := Lib.hid (Ogr_11.out.kept hb)
    clear hb
    obtain ⟨cA120, cA121, cA122, cA123, fA120, fA121, fA122, fA123⟩ := box4 XA_12.out; have lA12 := heap_lt XA_12.out
    obtain ⟨cwr120, cwr121, cwr122, cwr123, fwr120, fwr121, fwr122, fwr123⟩ := box4 Xwr_12.out; have lwr12 := heap_lt Xwr_12.out
    obtain ⟨cx120, cx121, cx122, cx123, fx120, fx121, fx122, fx123⟩ := box4 Xx_12.out; have lx12 := heap_lt Xx_12.out
    obtain ⟨cgr120, cgr121, cgr122, cgr123, fgr120, fgr121, fgr122, fgr123⟩ := box4 Xgr_12.out; have lgr12 := heap_lt Xgr_12.out
    clear cA110 cA111 cA112 cA113 fA110 fA111 fA112 fA113 cwr110 cwr111 cwr112 cwr113 fwr110 fwr111 fwr112 fwr113 cx110 cx111 cx112 cx113 fx110 fx111 fx112 fx113 cgr110 cgr111 cgr112 cgr113 fgr110 fgr111 fgr112 fgr113
    go_wp2_with (fail)
    refine (toOnce_calls _ c _ (OnceRow.below HA.out B12.out) hsz2).mono ?_
    rintro e w13 ⟨vz, rfl, ho_z, hb⟩
    have B13 := Lib.hid (Below.trans B12.out (hb.mono (by first | omega | (simp only [szA, szS, szD, World.heap_drewN] at * <;> omega))) : Below w.heap.size w w13); have Z13 := hb.size
    have N13 : w12.heap.size ≤ w13.heap.size := (by first | exact Z13 | (simp only [szA, szD] at Z13; omega))
    clear Z13
    have XA_13 := Lib.hid (below_at hb XA_12.out)
    have Xwr_13 := Lib.hid (below_at hb Xwr_12.out)
    have Xx_13 := Lib.hid (below_at hb Xx_12.out)
    have Xgr_13 := Lib.hid (below_at hb Xgr_12.out)
    have Owr_13 := Lib.hid (Owr_12.out.kept hb)
    have Ox_13 := Lib.hid (Ox_12.out.kept hb)
    have Ogr_13 := Lib.hid (Ogr_12.out.kept hb)
    have Oz_13 := Lib.hid (ho_z.mono (lo' := w12.heap.size) (by first | omega | (simp only [szA, szS, szD, World.heap_drewN] at * <;> omega)) (Nat.le_refl _)); obtain ⟨az3, pz3, rfl, hx_z⟩ := ho_z; clear hx_z
    clear hb
    obtain ⟨cA130, cA131, cA132, cA133, fA130, fA131, fA132, fA133⟩ := box4 XA_13.out; have lA13 := heap_lt XA_13.out
    obtain ⟨cwr130, cwr131, cwr132, cwr133, fwr130, fwr131, fwr132, fwr133⟩ := box4 Xwr_13.out; have lwr13 := heap_lt Xwr_13.out
    obtain ⟨cx130, cx131, cx132, cx133, fx130, fx131, fx132, fx133⟩ := box4 Xx_13.out; have lx13 := heap_lt Xx_13.out
    obtain ⟨cgr130, cgr131, cgr132, cgr133, fgr130, fgr131, fgr132, fgr133⟩ := box4 Xgr_13.out; have lgr13 := heap_lt Xgr_13.out
    clear cA120 cA121 cA122 cA123 fA120 fA121 fA122 fA123 cwr120 cwr121 cwr122 cwr123 fwr120 fwr121 fwr122 fwr123 cx120 cx121 cx122 cx123 fx120 fx121 fx122 fx123 cgr120 cgr121 cgr122 cgr123 fgr120 fgr121 fgr122 fgr123
    go_wp2_with (fail)
    refine (EnterOnceO _ c t r i1 b1 _ (Oz_13.out.row) HR.out).mono ?_
    rintro e w14 ⟨vhr, rfl, ho_hr, hb⟩
    have B14 := Lib.hid (Below.trans B13.out (hb.mono (by first | omega | (simp only [szA, szS, szD, World.heap_drewN] at * <;> omega))) : Below w.heap.size w w14); have Z14 := hb.size
    have N14 : w13.heap.size ≤ w14.heap.size := (by first | exact Z14 | (simp only [szA, szD] at Z14; omega))
    clear Z14
    have XA_14 := Lib.hid (below_at hb XA_13.out)
    have Xwr_14 := Lib.hid (below_at hb Xwr_13.out)
    have Xx_14 := Lib.hid (below_at hb Xx_13.out)
    have Xgr_14 := Lib.hid (below_at hb Xgr_13.out)
    have Owr_14 := Lib.hid (Owr_13.out.kept hb)
    have Ox_14 := Lib.hid (Ox_13.out.kept hb)
    have Ogr_14 := Lib.hid (Ogr_13.out.kept hb)
    have Oz_14 := Lib.hid (Oz_13.out.kept hb)
    have Ohr_14 := Lib.hid (ho_hr.mono (lo' := w13.heap.size) (by first | omega | (simp only [szA, szS, szD, World.heap_drewN] at * <;> omega)) (Nat.le_refl _)); obtain ⟨ahr3, phr3, rfl, hx_hr⟩ := ho_hr; clear hx_hr
    clear hb
    obtain ⟨cA140, cA141, cA142, cA143, fA140, fA141, fA142, fA143⟩ := box4 XA_14.out; have lA14 := heap_lt XA_14.out
    obtain ⟨cwr140, cwr141, cwr142, cwr143, fwr140, fwr141, fwr142, fwr143⟩ := box4 Xwr_14.out; have lwr14 := heap_lt Xwr_14.out
    obtain ⟨cx140, cx141, cx142, cx143, fx140, fx141, fx142, fx143⟩ := box4 Xx_14.out; have lx14 := heap_lt Xx_14.out
    obtain ⟨cgr140, cgr141, cgr142, cgr143, fgr140, fgr141, fgr142, fgr143⟩ := box4 Xgr_14.out; have lgr14 := heap_lt Xgr_14.out
    clear cA130 cA131 cA132 cA133 fA130 fA131 fA132 fA133 cwr130 cwr131 cwr132 cwr133 fwr130 fwr131 fwr132 fwr133 cx130 cx131 cx132 cx133 fx130 fx131 fx132 fx133 cgr130 cgr131 cgr132 cgr133 fgr130 fgr131 fgr132 fgr133
    go_wp2_with (fail)
    refine (eqOnce_calls _ _ r r _ ((Ohr_14.out.alloc _).row) ((Owr_14.out.alloc _).row)).mono ?_
    rw [decide_eq_true rfl]
    rintro e w15 ⟨rfl, hb⟩
    have B15 := Lib.hid (Below.trans (Below.alloc B14.out (by first | omega | (simp only [szA, szS, szD, World.heap_drewN] at * <;> omega)) _) (hb.mono (by first | omega | (simp only [szA, szS, szD, World.heap_drewN] at * <;> omega))) : Below w.heap.size w w15); have Z15 := hb.size
    have N15 : w14.heap.size + 1 ≤ w15.heap.size := (by first | exact Z15 | (simp only [szA, szD] at Z15; omega))
    clear Z15
    have XA_15 := Lib.hid (below_at hb (heap_up XA_14.out))
    have Xwr_15 := Lib.hid (below_at hb (heap_up Xwr_14.out))
    have Xx_15 := Lib.hid (below_at hb (heap_up Xx_14.out))
    have Xgr_15 := Lib.hid (below_at hb (heap_up Xgr_14.out))
    have Xhr_15 : Hid (w15.heap[w14.heap.size]? = some (.cells #[.int .i64 r.state, .int .i64 r.owner, .int .i64 r.value, .slice ahr3 r.waits.length phr3] 25 (0, 0))) := below_at hb (heap_at' (n := w14.heap.size) (by first | omega | (simp only [szA, szS, szD, World.heap_drewN] at * <;> omega)))
    have Owr_15 := Lib.hid ((Owr_14.out.alloc _).kept hb)
    have Ox_15 := Lib.hid ((Ox_14.out.alloc _).kept hb)
    have Ogr_15 := Lib.hid ((Ogr_14.out.alloc _).kept hb)
    have Ohr_15 := Lib.hid ((Ohr_14.out.alloc _).kept hb)
    clear hb
    obtain ⟨cA150, cA151, cA152, cA153, fA150, fA151, fA152, fA153⟩ := box4 XA_15.out; have lA15 := heap_lt XA_15.out
    obtain ⟨cwr150, cwr151, cwr152, cwr153, fwr150, fwr151, fwr152, fwr153⟩ := box4 Xwr_15.out; have lwr15 := heap_lt Xwr_15.out
    obtain ⟨cx150, cx151, cx152, cx153, fx150, fx151, fx152, fx153⟩ := box4 Xx_15.out; have lx15 := heap_lt Xx_15.out
    obtain ⟨cgr150, cgr151, cgr152, cgr153, fgr150, fgr151, fgr152, fgr153⟩ := box4 Xgr_15.out; have lgr15 := heap_lt Xgr_15.out
    obtain ⟨chr150, chr151, chr152, chr153, fhr150, fhr151, fhr152, fhr153⟩ := box4 Xhr_15.out; have lhr15 := heap_lt Xhr_15.out
    clear cA140 cA141 cA142 cA143 fA140 fA141 fA142 fA143 cwr140 cwr141 cwr142 cwr143 fwr140 fwr141 fwr142 fwr143 cx140 cx141 cx142 cx143 fx140 fx141 fx142 fx143 cgr140 cgr141 cgr142 cgr143 fgr140 fgr141 fgr142 fgr143
    go_wp2_with (fail)
    refine (heldOnce_calls _ r (1) _ (Ogr_15.out.row) (by omega) (by omega) (by omega)).mono ?_
    rintro e w16 ⟨rfl, hb⟩
    have B16 := Lib.hid (Below.trans B15.out (hb.mono (by first | omega | (simp only [szA, szS, szD, World.heap_drewN] at * <;> omega))) : Below w.heap.size w w16); have Z16 := hb.size
    have N16 : w15.heap.size ≤ w16.heap.size := (by first | exact Z16 | (simp only [szA, szD] at Z16; omega))
    clear Z16
    have XA_16 := Lib.hid (below_at hb XA_15.out)
    have Xwr_16 := Lib.hid (below_at hb Xwr_15.out)
    have Xx_16 := Lib.hid (below_at hb Xx_15.out)
    have Xgr_16 := Lib.hid (below_at hb Xgr_15.out)
    have Xhr_16 := Lib.hid (below_at hb Xhr_15.out)
    have Owr_16 := Lib.hid (Owr_15.out.kept hb)
    have Ox_16 := Lib.hid (Ox_15.out.kept hb)
    have Ogr_16 := Lib.hid (Ogr_15.out.kept hb)
    have Ohr_16 := Lib.hid (Ohr_15.out.kept hb)
    clear hb
    obtain ⟨cA160, cA161, cA162, cA163, fA160, fA161, fA162, fA163⟩ := box4 XA_16.out; have lA16 := heap_lt XA_16.out
    obtain ⟨cwr160, cwr161, cwr162, cwr163, fwr160, fwr161, fwr162, fwr163⟩ := box4 Xwr_16.out; have lwr16 := heap_lt Xwr_16.out
    obtain ⟨cx160, cx161, cx162, cx163, fx160, fx161, fx162, fx163⟩ := box4 Xx_16.out; have lx16 := heap_lt Xx_16.out
    obtain ⟨cgr160, cgr161, cgr162, cgr163, fgr160, fgr161, fgr162, fgr163⟩ := box4 Xgr_16.out; have lgr16 := heap_lt Xgr_16.out
    obtain ⟨chr160, chr161, chr162, chr163, fhr160, fhr161, fhr162, fhr163⟩ := box4 Xhr_16.out; have lhr16 := heap_lt Xhr_16.out
    clear cA150 cA151 cA152 cA153 fA150 fA151 fA152 fA153 cwr150 cwr151 cwr152 cwr153 fwr150 fwr151 fwr152 fwr153 cx150 cx151 cx152 cx153 fx150 fx151 fx152 fx153 cgr150 cgr151 cgr152 cgr153 fgr150 fgr151 fgr152 fgr153 chr150 chr151 chr152 chr153 fhr150 fhr151 fhr152 fhr153
    go_wp2
    go_ret
    exact ⟨rfl, B16.out⟩
  · rw [szF_neg hsz]
    go_wp2
    go_ret
    exact ⟨rfl, B1.out⟩
end Go.Proofs.Ytmmkbiljjhigfaa
