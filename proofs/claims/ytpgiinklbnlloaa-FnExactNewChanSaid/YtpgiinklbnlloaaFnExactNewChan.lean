/- FnExactNewChan: the law's walk (made by exact.py). -/
import Derived.Test.YtpgiinklbnlloaaChanNew
namespace Go.Proofs.Ytpgiinklbnlloaa
open Go.RowKit
set_option linter.unusedSimpArgs false
set_option linter.unusedVariables false
set_option maxHeartbeats 8000000 in
theorem FnExactNewChan_calls (n : Int) (w : World) :
    Calls Try.prog 3 #[.int .i64 n] w fun e w' => e = .returned (.bool true) ∧ Below w.heap.size w w' := by
  obtain ⟨r, b1, hr⟩ : ∃ (r : ChanD) (b1 : Bool), newChan n = (r, b1) := ⟨_, _, rfl⟩
  have HR := Lib.hid hr; clear hr
  have hrs := newChan_small HR.out
  go_enter Try.func3, Try.ntmps3
  go_wp2_with (fail)
  refine (sNewChanO n r b1 _ HR.out).mono ?_
  rintro e w1 ⟨vwr, rfl, ho_wr, hb⟩
  have B1 := Lib.hid (Below.trans (Below.refl _ _) (hb.mono (by first | omega | (simp only [szA, szS, szD, World.heap_drewN] at * <;> omega))) : Below w.heap.size w w1); have Z1 := hb.size
  have N1 : w.heap.size ≤ w1.heap.size := (by first | exact Z1 | (simp only [szA, szD] at Z1; omega))
  clear Z1
  have Owr_1 := Lib.hid (ho_wr.mono (lo' := w.heap.size) (by first | omega | (simp only [szA, szS, szD, World.heap_drewN] at * <;> omega)) (Nat.le_refl _)); obtain ⟨awr1, pwr1, awr2, pwr2, awr3, pwr3, rfl, hx_wr⟩ := ho_wr; clear hx_wr
  clear hb
  go_wp2_with (fail)
  refine (NewChanO n r b1 _ HR.out).mono ?_
  rintro e w2 ⟨vgr, rfl, ho_gr, hb⟩
  have B2 := Lib.hid (Below.trans (Below.alloc B1.out (by first | omega | (simp only [szA, szS, szD, World.heap_drewN] at * <;> omega)) _) (hb.mono (by first | omega | (simp only [szA, szS, szD, World.heap_drewN] at * <;> omega))) : Below w.heap.size w w2); have Z2 := hb.size
  have N2 : w1.heap.size + 1 ≤ w2.heap.size := (by first | exact Z2 | (simp only [szA, szD] at Z2; omega))
  clear Z2
  have Xwr_2 : Hid (w2.heap[w1.heap.size]? = some (.cells #[.int .i64 r.room, .slice awr1 r.items.length pwr1, .slice awr2 r.senders.length pwr2, .slice awr3 r.getters.length pwr3, .bool r.closed] 25 (0, 0))) := below_at hb (heap_at' (n := w1.heap.size) (by first | omega | (simp only [szA, szS, szD, World.heap_drewN] at * <;> omega)))
  have Owr_2 := Lib.hid ((Owr_1.out.alloc _).kept hb)
  have Ogr_2 := Lib.hid (ho_gr.mono (lo' := w1.heap.size + 1) (by first | omega | (simp only [szA, szS, szD, World.heap_drewN] at * <;> omega)) (Nat.le_refl _)); obtain ⟨agr1, pgr1, agr2, pgr2, agr3, pgr3, rfl, hx_gr⟩ := ho_gr; clear hx_gr
  clear hb
  obtain ⟨cwr20, cwr21, cwr22, cwr23, cwr24, fwr20, fwr21, fwr22, fwr23, fwr24⟩ := box5 Xwr_2.out; have lwr2 := heap_lt Xwr_2.out
  go_wp2_with (fail)
  refine (eqChan_calls _ _ r r _ ((Ogr_2.out.alloc _).row) ((Owr_2.out.alloc _).row)).mono ?_
  rw [decide_eq_true rfl]
  rintro e w3 ⟨rfl, hb⟩
  have B3 := Lib.hid (Below.trans (Below.alloc B2.out (by first | omega | (simp only [szA, szS, szD, World.heap_drewN] at * <;> omega)) _) (hb.mono (by first | omega | (simp only [szA, szS, szD, World.heap_drewN] at * <;> omega))) : Below w.heap.size w w3); have Z3 := hb.size
  have N3 : w2.heap.size + 1 ≤ w3.heap.size := (by first | exact Z3 | (simp only [szA, szD] at Z3; omega))
  clear Z3
  have Xwr_3 := Lib.hid (below_at hb (heap_up Xwr_2.out))
  have Xgr_3 : Hid (w3.heap[w2.heap.size]? = some (.cells #[.int .i64 r.room, .slice agr1 r.items.length pgr1, .slice agr2 r.senders.length pgr2, .slice agr3 r.getters.length pgr3, .bool r.closed] 25 (0, 0))) := below_at hb (heap_at' (n := w2.heap.size) (by first | omega | (simp only [szA, szS, szD, World.heap_drewN] at * <;> omega)))
  have Owr_3 := Lib.hid ((Owr_2.out.alloc _).kept hb)
  have Ogr_3 := Lib.hid ((Ogr_2.out.alloc _).kept hb)
  clear hb
  obtain ⟨cwr30, cwr31, cwr32, cwr33, cwr34, fwr30, fwr31, fwr32, fwr33, fwr34⟩ := box5 Xwr_3.out; have lwr3 := heap_lt Xwr_3.out
  obtain ⟨cgr30, cgr31, cgr32, cgr33, cgr34, fgr30, fgr31, fgr32, fgr33, fgr34⟩ := box5 Xgr_3.out; have lgr3 := heap_lt Xgr_3.out
  clear cwr20 cwr21 cwr22 cwr23 cwr24 fwr20 fwr21 fwr22 fwr23 fwr24
  go_wp2_with (fail)
  refine (markChan_calls _ _ _ r (1) _ Ogr_3.out (by omega) (by omega) (by omega)).mono ?_
  rintro e w4 ⟨rfl, ho, hs, ht⟩
  have B4 := Lib.hid (Below.trans B3.out (hs.below (by first | omega | (simp only [szA, szS, szD, World.heap_drewN] at * <;> omega)) (by first | omega | (simp only [szA, szS, szD, World.heap_drewN] at * <;> omega))) : Below w.heap.size w w4); have Z4 := hs.size
  have N4 : w3.heap.size ≤ w4.heap.size := (by first | exact Z4 | (simp only [szA, szD] at Z4; omega))
  clear Z4
  have Xwr_4 := Lib.hid (hs.box Xwr_3.out (by first | omega | (simp only [szA, szS, szD, World.heap_drewN] at * <;> omega)))
  have Xgr_4 := Lib.hid (hs.box Xgr_3.out (by first | omega | (simp only [szA, szS, szD, World.heap_drewN] at * <;> omega)))
  have Owr_4 := Lib.hid (Owr_3.out.span hs (by first | omega | (simp only [szA, szS, szD, World.heap_drewN] at * <;> omega)))
  have Ogr_4 := Lib.hid ho
  clear hs ho ht
  obtain ⟨cwr40, cwr41, cwr42, cwr43, cwr44, fwr40, fwr41, fwr42, fwr43, fwr44⟩ := box5 Xwr_4.out; have lwr4 := heap_lt Xwr_4.out
  obtain ⟨cgr40, cgr41, cgr42, cgr43, cgr44, fgr40, fgr41, fgr42, fgr43, fgr44⟩ := box5 Xgr_4.out; have lgr4 := heap_lt Xgr_4.out
  clear cwr30 cwr31 cwr32 cwr33 cwr34 fwr30 fwr31 fwr32 fwr33 fwr34 cgr30 cgr31 cgr32 cgr33 cgr34 fgr30 fgr31 fgr32 fgr33 fgr34
  go_wp2_with (fail)
  refine (heldChan_calls _ r (1) _ (Ogr_4.out.row) (by omega) (by omega) (by omega)).mono ?_
  rintro e w5 ⟨rfl, hb⟩
  have B5 := Lib.hid (Below.trans B4.out (hb.mono (by first | omega | (simp only [szA, szS, szD, World.heap_drewN] at * <;> omega))) : Below w.heap.size w w5); have Z5 := hb.size
  have N5 : w4.heap.size ≤ w5.heap.size := (by first | exact Z5 | (simp only [szA, szD] at Z5; omega))
  clear Z5
  have Xwr_5 := Lib.hid (below_at hb Xwr_4.out)
  have Xgr_5 := Lib.hid (below_at hb Xgr_4.out)
  have Owr_5 := Lib.hid (Owr_4.out.kept hb)
  have Ogr_5 := Lib.hid (Ogr_4.out.kept hb)
  clear hb
  obtain ⟨cwr50, cwr51, cwr52, cwr53, cwr54, fwr50, fwr51, fwr52, fwr53, fwr54⟩ := box5 Xwr_5.out; have lwr5 := heap_lt Xwr_5.out
  obtain ⟨cgr50, cgr51, cgr52, cgr53, cgr54, fgr50, fgr51, fgr52, fgr53, fgr54⟩ := box5 Xgr_5.out; have lgr5 := heap_lt Xgr_5.out
  clear cwr40 cwr41 cwr42 cwr43 cwr44 fwr40 fwr41 fwr42 fwr43 fwr44 cgr40 cgr41 cgr42 cgr43 cgr44 fgr40 fgr41 fgr42 fgr43 fgr44
  go_wp2_with (fail)
  refine (NewChanO n r b1 _ HR.out).mono ?_
  rintro e w6 ⟨vhr, rfl, ho_hr, hb⟩
  have B6 := Lib.hid (Below.trans B5.out (hb.mono (by first | omega | (simp only [szA, szS, szD, World.heap_drewN] at * <;> omega))) : Below w.heap.size w w6); have Z6 := hb.size
  have N6 : w5.heap.size ≤ w6.heap.size := (by first | exact Z6 | (simp only [szA, szD] at Z6; omega))
  clear Z6
  have Xwr_6 := Lib.hid (below_at hb Xwr_5.out)
  have Xgr_6 := Lib.hid (below_at hb Xgr_5.out)
  have Owr_6 := Lib.hid (Owr_5.out.kept hb)
  have Ogr_6 := Lib.hid (Ogr_5.out.kept hb)
  have Ohr_6 := Lib.hid (ho_hr.mono (lo' := w5.heap.size) (by first | omega | (simp only [szA, szS, szD, World.heap_drewN] at * <;> omega)) (Nat.le_refl _)); obtain ⟨ahr1, phr1, ahr2, phr2, ahr3, phr3, rfl, hx_hr⟩ := ho_hr; clear hx_hr
  clear hb
  obtain ⟨cwr60, cwr61, cwr62, cwr63, cwr64, fwr60, fwr61, fwr62, fwr63, fwr64⟩ := box5 Xwr_6.out; have lwr6 := heap_lt Xwr_6.out
  obtain ⟨cgr60, cgr61, cgr62, cgr63, cgr64, fgr60, fgr61, fgr62, fgr63, fgr64⟩ := box5 Xgr_6.out; have lgr6 := heap_lt Xgr_6.out
  clear cwr50 cwr51 cwr52 cwr53 cwr54 fwr50 fwr51 fwr52 fwr53 fwr54 cgr50 cgr51 cgr52 cgr53 cgr54 fgr50 fgr51 fgr52 fgr53 fgr54
  go_wp2_with (fail)
  refine (eqChan_calls _ _ r r _ ((Ohr_6.out.alloc _).row) ((Owr_6.out.alloc _).row)).mono ?_
  rw [decide_eq_true rfl]
  rintro e w7 ⟨rfl, hb⟩
  have B7 := Lib.hid (Below.trans (Below.alloc B6.out (by first | omega | (simp only [szA, szS, szD, World.heap_drewN] at * <;> omega)) _) (hb.mono (by first | omega | (simp only [szA, szS, szD, World.heap_drewN] at * <;> omega))) : Below w.heap.size w w7); have Z7 := hb.size
  have N7 : w6.heap.size + 1 ≤ w7.heap.size := (by first | exact Z7 | (simp only [szA, szD] at Z7; omega))
  clear Z7
  have Xwr_7 := Lib.hid (below_at hb (heap_up Xwr_6.out))
  have Xgr_7 := Lib.hid (below_at hb (heap_up Xgr_6.out))
  have Xhr_7 : Hid (w7.heap[w6.heap.size]? = some (.cells #[.int .i64 r.room, .slice ahr1 r.items.length phr1, .slice ahr2 r.senders.length phr2, .slice ahr3 r.getters.length phr3, .bool r.closed] 25 (0, 0))) := below_at hb (heap_at' (n := w6.heap.size) (by first | omega | (simp only [szA, szS, szD, World.heap_drewN] at * <;> omega)))
  have Owr_7 := Lib.hid ((Owr_6.out.alloc _).kept hb)
  have Ogr_7 := Lib.hid ((Ogr_6.out.alloc _).kept hb)
  have Ohr_7 := Lib.hid ((Ohr_6.out.alloc _).kept hb)
  clear hb
  obtain ⟨cwr70, cwr71, cwr72, cwr73, cwr74, fwr70, fwr71, fwr72, fwr73, fwr74⟩ := box5 Xwr_7.out; have lwr7 := heap_lt Xwr_7.out
  obtain ⟨cgr70, cgr71, cgr72, cgr73, cgr74, fgr70, fgr71, fgr72, fgr73, fgr74⟩ := box5 Xgr_7.out; have lgr7 := heap_lt Xgr_7.out
  obtain ⟨chr70, chr71, chr72, chr73, chr74, fhr70, fhr71, fhr72, fhr73, fhr74⟩ := box5 Xhr_7.out; have lhr7 := heap_lt Xhr_7.out
  clear cwr60 cwr61 cwr62 cwr63 cwr64 fwr60 fwr61 fwr62 fwr63 fwr64 cgr60 cgr61 cgr62 cgr63 cgr64 fgr60 fgr61 fgr62 fgr63 fgr64
  go_wp2_with (fail)
  refine (heldChan_calls _ r (1) _ (Ogr_7.out.row) (by omega) (by omega) (by omega)).mono ?_
  rintro e w8 ⟨rfl, hb⟩
  have B8 := Lib.hid (Below.trans B7.out (hb.mono (by first | omega | (simp only [szA, szS, szD, World.heap_drewN] at * <;> omega))) : Below w.heap.size w w8); have Z8 := hb.size
  have N8 : w7.heap.size ≤ w8.heap.size := (by first | exact Z8 | (simp only [szA, szD] at Z8; omega))
  clear Z8
  have Xwr_8 := Lib.hid (below_at hb Xwr_7.out)
  have Xgr_8 := Lib.hid (below_at hb Xgr_7.out)
  have Xhr_8 := Lib.hid (below_at hb Xhr_7.out)
  have Owr_8 := Lib.hid (Owr_7.out.kept hb)
  have Ogr_8 := Lib.hid (Ogr_7.out.kept hb)
  have Ohr_8 := Lib.hid (Ohr_7.out.kept hb)
  clear hb
  obtain ⟨cwr80, cwr81, cwr82, cwr83, cwr84, fwr80, fwr81, fwr82, fwr83, fwr84⟩ := box5 Xwr_8.out; have lwr8 := heap_lt Xwr_8.out
  obtain ⟨cgr80, cgr81, cgr82, cgr83, cgr84, fgr80, fgr81, fgr82, fgr83, fgr84⟩ := box5 Xgr_8.out; have lgr8 := heap_lt Xgr_8.out
  obtain ⟨chr80, chr81, chr82, chr83, chr84, fhr80, fhr81, fhr82, fhr83, fhr84⟩ := box5 Xhr_8.out; have lhr8 := heap_lt Xhr_8.out
  clear cwr70 cwr71 cwr72 cwr73 cwr74 fwr70 fwr71 fwr72 fwr73 fwr74 cgr70 cgr71 cgr72 cgr73 cgr74 fgr70 fgr71 fgr72 fgr73 fgr74 chr70 chr71 chr72 chr73 chr74 fhr70 fhr71 fhr72 fhr73 fhr74
  go_wp2
  go_ret
  exact ⟨rfl, B8.out⟩
end Go.Proofs.Ytpgiinklbnlloaa
