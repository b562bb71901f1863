/- FnExactFormatLock: the law's walk (made by exact.py). -/
import Derived.Test.YtbnfhnfnbhigoaaDoorFmtLockS
import Derived.Test.YtbnfhnfnbhigoaaDoorFmtLockI
namespace Go.Proofs.YtbnfhnfnbhigoaaDoor
open Go.RowKit
set_option linter.unusedSimpArgs false
set_option linter.unusedVariables false
set_option maxHeartbeats 4000000 in
theorem FnExactFormatLock_calls (v : Value) (c : LockD) (w : World) (h : LockRow w v c) :
    Calls Tryd.prog 3 #[v] w fun e w' => e = .returned (.bool true) ∧ Below w.heap.size w w' := by
  have HA := Lib.hid h
  obtain ⟨aA0, pA0, aA2, pA2, rfl, h⟩ := h
  clear h
  go_enter Tryd.func3, Tryd.ntmps3
  go_wp2_with (fail)
  refine (szLock_calls _ c 1048576 _ (LockRow.below HA.out (Below.alloc (Below.refl _ _) (by first | omega | (simp only [szA, szS, szD, World.heap_drewN] at * <;> omega)) _)) (by omega) (by omega)).mono ?_
  rintro e w1 ⟨rfl, hb⟩
  have B1 := Lib.hid (Below.trans (Below.alloc (Below.refl _ _) (by first | omega | (simp only [szA, szS, szD, World.heap_drewN] at * <;> omega)) _) (hb.mono (by first | omega | (simp only [szA, szS, szD, World.heap_drewN] at * <;> omega))) : Below w.heap.size w w1); have Z1 := hb.size
  have N1 : w.heap.size + 1 ≤ w1.heap.size := (by first | exact Z1 | (simp only [szA, szD] at Z1; omega))
  clear Z1
  have XA_1 : Hid (w1.heap[w.heap.size]? = some (.cells #[.slice aA0 c.readers.length pA0, .int .i64 c.writer, .slice aA2 c.q.length pA2] 25 (0, 0))) := below_at hb (heap_at' (n := w.heap.size) (by first | omega | (simp only [szA, szS, szD, World.heap_drewN] at * <;> omega)))
  clear hb
  obtain ⟨cA10, cA11, cA12, fA10, fA11, fA12⟩ := box3 XA_1.out; have lA1 := heap_lt XA_1.out
  by_cases hsz : ((c.readers.length + c.q.length : Nat) : Int) ≤ 1048576
  · rw [szF_pos hsz]
    have hc2 : c.readers.length + c.q.length ≤ 1048576 := by omega
    clear hsz
    go_wp2_with (fail)
    refine (toLock_calls _ c _ (LockRow.below HA.out B1.out) hc2).mono ?_
    rintro e w2 ⟨vt, rfl, ho_t, hb⟩
    have B2 := Lib.hid (Below.trans B1.out (hb.mono (by first | omega | (simp only [szA, szS, szD, World.heap_drewN] at * <;> omega))) : Below w.heap.size w w2); have Z2 := hb.size
    have N2 : w1.heap.size ≤ w2.heap.size := (by first | exact Z2 | (simp only [szA, szD] at Z2; omega))
    clear Z2
    have XA_2 := Lib.hid (below_at hb XA_1.out)
    have Ot_2 := Lib.hid (ho_t.mono (lo' := w1.heap.size) (by first | omega | (simp only [szA, szS, szD, World.heap_drewN] at * <;> omega)) (Nat.le_refl _)); obtain ⟨at0, pt0, at2, pt2, rfl, hx_t⟩ := ho_t; clear hx_t
    clear hb
    obtain ⟨cA20, cA21, cA22, fA20, fA21, fA22⟩ := box3 XA_2.out; have lA2 := heap_lt XA_2.out
    clear cA10 cA11 cA12 fA10 fA11 fA12
    go_wp2_with (fail)
    refine (sFormatLock_calls _ c _ (Ot_2.out.row) hc2).mono ?_
    rintro e w3 ⟨rfl, hb⟩
    have B3 := Lib.hid (Below.trans B2.out (hb.mono (by first | omega | (simp only [szA, szS, szD, World.heap_drewN] at * <;> omega))) : Below w.heap.size w w3); have Z3 := hb.size
    have N3 : w2.heap.size ≤ w3.heap.size := (by first | exact Z3 | (simp only [szA, szD] at Z3; omega))
    clear Z3
    have XA_3 := Lib.hid (below_at hb XA_2.out)
    have Ot_3 := Lib.hid (Ot_2.out.kept hb)
    clear hb
    obtain ⟨cA30, cA31, cA32, fA30, fA31, fA32⟩ := box3 XA_3.out; have lA3 := heap_lt XA_3.out
    clear cA20 cA21 cA22 fA20 fA21 fA22
    go_wp2_with (fail)
    refine (toLock_calls _ c _ (LockRow.below HA.out B3.out) hc2).mono ?_
    rintro e w4 ⟨vx, rfl, ho_x, hb⟩
    have B4 := Lib.hid (Below.trans B3.out (hb.mono (by first | omega | (simp only [szA, szS, szD, World.heap_drewN] at * <;> omega))) : Below w.heap.size w w4); have Z4 := hb.size
    have N4 : w3.heap.size ≤ w4.heap.size := (by first | exact Z4 | (simp only [szA, szD] at Z4; omega))
    clear Z4
    have XA_4 := Lib.hid (below_at hb XA_3.out)
    have Ox_4 := Lib.hid (ho_x.mono (lo' := w3.heap.size) (by first | omega | (simp only [szA, szS, szD, World.heap_drewN] at * <;> omega)) (Nat.le_refl _)); obtain ⟨ax0, px0, ax2, px2, rfl, hx_x⟩ := ho_x; clear hx_x
    clear hb
    obtain ⟨cA40, cA41, cA42, fA40, fA41, fA42⟩ := box3 XA_4.out; have lA4 := heap_lt XA_4.out
    clear cA30 cA31 cA32 fA30 fA31 fA32
    go_wp2_with (fail)
    refine (FormatLock_calls _ c _ ((Ox_4.out.alloc _).row) hc2).mono ?_
    rintro e w5 ⟨rfl, hb⟩
    have B5 := Lib.hid (Below.trans (Below.alloc B4.out (by first | omega | (simp only [szA, szS, szD, World.heap_drewN] at * <;> omega)) _) (hb.mono (by first | omega | (simp only [szA, szS, szD, World.heap_drewN] at * <;> omega))) : Below w.heap.size w w5); have Z5 := hb.size
    have N5 : w4.heap.size + 1 ≤ w5.heap.size := (by first | exact Z5 | (simp only [szA, szD] at Z5; omega))
    clear Z5
    have XA_5 := Lib.hid (below_at hb (heap_up XA_4.out))
    have Xx_5 : Hid (w5.heap[w4.heap.size]? = some (.cells #[.slice ax0 c.readers.length px0, .int .i64 c.writer, .slice ax2 c.q.length px2] 30 (0, 0))) := below_at hb (heap_at' (n := w4.heap.size) (by first | omega | (simp only [szA, szS, szD, World.heap_drewN] at * <;> omega)))
    have Ox_5 := Lib.hid ((Ox_4.out.alloc _).kept hb)
    clear hb
    obtain ⟨cA50, cA51, cA52, fA50, fA51, fA52⟩ := box3 XA_5.out; have lA5 := heap_lt XA_5.out
    obtain ⟨cx50, cx51, cx52, fx50, fx51, fx52⟩ := box3 Xx_5.out; have lx5 := heap_lt Xx_5.out
    clear cA40 cA41 cA42 fA40 fA41 fA42
    go_wp2_with (fail)
    go_region_held3 (fun w' => w'.cell? ⟨w4.heap.size, 0, none⟩ = some (.slice ax0 c.readers.length px0) ∧ w'.cell? ⟨w4.heap.size, 1, none⟩ = some (.int .i64 c.writer) ∧ w'.cell? ⟨w4.heap.size, 2, none⟩ = some (.slice ax2 c.q.length px2) ∧ w'.cell? ⟨w.heap.size, 0, none⟩ = some (.slice aA0 c.readers.length pA0) ∧ w'.cell? ⟨w.heap.size, 1, none⟩ = some (.int .i64 c.writer) ∧ w'.cell? ⟨w.heap.size, 2, none⟩ = some (.slice aA2 c.q.length pA2)) (go_keep)
      (first
        | (go_at_call 9; refine (toLock_calls _ c _ (LockRow.below HA.out B5.out.drew) hc2).mono ?_; rintro e w6 ⟨vq, rfl, ho_q, hb⟩; have B6 := Lib.hid (Below.trans B5.out.drew (hb.mono (by first | omega | (simp only [szA, szS, szD, World.heap_drewN] at * <;> omega))) : Below w.heap.size w w6); have Z6 := hb.size; have N6 : w5.heap.size ≤ w6.heap.size := (by first | exact Z6 | (simp only [szA, szD] at Z6; omega)); clear Z6; have XA_6 := Lib.hid (below_at hb (heap_drew XA_5.out)); have Xx_6 := Lib.hid (below_at hb (heap_drew Xx_5.out)); have Ox_6 := Lib.hid ((Ox_5.out.drew).kept hb); have Oq_6 := Lib.hid (ho_q.mono (lo' := w5.heap.size) (by first | omega | (simp only [szA, szS, szD, World.heap_drewN] at * <;> omega)) (Nat.le_refl _)); obtain ⟨aq0, pq0, aq2, pq2, rfl, hx_q⟩ := ho_q; clear hx_q; clear hb; obtain ⟨cA60, cA61, cA62, fA60, fA61, fA62⟩ := box3 XA_6.out; have lA6 := heap_lt XA_6.out; obtain ⟨cx60, cx61, cx62, fx60, fx61, fx62⟩ := box3 Xx_6.out; have lx6 := heap_lt Xx_6.out)
        | (go_at_call 11; refine (eqLock_calls _ _ c c _ (Ox_6.out.row) (Oq_6.out.row)).mono ?_; rw [decide_eq_true rfl]; rintro e w7 ⟨rfl, hb⟩; have B7 := Lib.hid (Below.trans B6.out (hb.mono (by first | omega | (simp only [szA, szS, szD, World.heap_drewN] at * <;> omega))) : Below w.heap.size w w7); have Z7 := hb.size; have N7 : w6.heap.size ≤ w7.heap.size := (by first | exact Z7 | (simp only [szA, szD] at Z7; omega)); clear Z7; have XA_7 := Lib.hid (below_at hb XA_6.out); have Xx_7 := Lib.hid (below_at hb Xx_6.out); have Ox_7 := Lib.hid (Ox_6.out.kept hb); have Oq_7 := Lib.hid (Oq_6.out.kept hb); clear hb; obtain ⟨cA70, cA71, cA72, fA70, fA71, fA72⟩ := box3 XA_7.out; have lA7 := heap_lt XA_7.out; obtain ⟨cx70, cx71, cx72, fx70, fx71, fx72⟩ := box3 Xx_7.out; have lx7 := heap_lt Xx_7.out)
      )
    clear cA50 cA51 cA52 fA50 fA51 fA52 cx50 cx51 cx52 fx50 fx51 fx52
    go_wp2
    go_ret
    exact ⟨rfl, B7.out⟩
  · rw [szF_neg hsz]
    go_wp2
    go_ret
    exact ⟨rfl, B1.out⟩
end Go.Proofs.YtbnfhnfnbhigoaaDoor
