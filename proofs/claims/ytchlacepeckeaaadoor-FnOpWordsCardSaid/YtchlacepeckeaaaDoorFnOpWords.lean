/- FnOpWords: the law's walk (made by gen_oplaws.py). -/
import Derived.Test.YtchlacepeckeaaaDoorDrawOps
import Derived.Test.YtchlacepeckeaaaDoorFmtOpI
import Derived.Test.YtchlacepeckeaaaDoorWordLaw
import Derived.Test.YtchlacepeckeaaaDoorG1
namespace Go.Proofs.YtchlacepeckeaaaDoor
open Go.RowKit
set_option linter.unusedSimpArgs false
set_option linter.unusedVariables false
set_option maxRecDepth 100000 in
set_option maxHeartbeats 6400000 in
theorem FnOpWords_calls (v : Value) (bs : List Int) (w : World) (h : Row 1 encB w v bs) (hbs : ∀ x ∈ bs, 0 ≤ x ∧ x ≤ 255) (hL : LaidW w) :
    Calls Tryd.prog 3 #[v] w fun e w' => e = .returned (.bool true) ∧ Below w.heap.size w w' := by
  have HB := Lib.hid hbs; clear hbs
  have HL := Lib.hid hL; clear hL
  have H0 := Lib.hid h
  obtain ⟨a, c, rfl, l1, l2, l3⟩ := h
  clear l3
  by_cases hl : bs.length ≤ 1048576
  · go_enter Tryd.func3, Tryd.ntmps3
    go_wp2_with (fail)
    refine (DrawFormatOp_calls _ bs _ (Row.below H0.out (Below.refl _ _)) HB.out).mono ?_
    rintro e w1 ⟨⟨x0, x1, x2⟩, rfl, hx, hb⟩
    have B1 := Lib.hid (Below.trans (Below.refl _ _) (hb.mono (by first | omega | (simp only [szA, szS, szD, World.heap_drewN] at * <;> omega))) : Below w.heap.size w w1)
    have Z1 := hb.size
    have N1 : w.heap.size ≤ w1.heap.size := (by first | with_reducible exact Z1 | (simp only [szA, szS, szD] at Z1; omega))
    clear Z1
    clear hb
    have S1 : w.heap.size ≤ w1.heap.size := (by omega)
    have HI := Lib.hid hx.inB; have HK := Lib.hid hx.1; clear hx
    obtain ⟨s, hs⟩ : ∃ s, opText (x0, x1, x2) = s := ⟨_, rfl⟩
    have hne := nonempty (s := s) (by rw [← hs]; exact opText_some HK.out)
    have HS := Lib.hid hs; clear hs
    have hn1 : (s.toList == []) = false := beq_eq_false_iff_ne.2 (fun e => by rw [e] at hne; cases hne)
    have hn2 : ¬ s.toList = [] := (fun e => by rw [e] at hne; cases hne)
    go_wp2_with (fail)
    refine (FormatOp_calls (x0, x1, x2) _ (HL.out.below (Below.alloc B1.out (by first | omega | (simp only [szA, szS, szD, World.heap_drewN] at * <;> omega)) _)) HI.out.2.1 HI.out.2.2).mono ?_
    rw [HS.out]
    rintro e w2 ⟨rfl, hb⟩
    have B2 := Lib.hid (Below.trans (Below.alloc B1.out (by first | omega | (simp only [szA, szS, szD, World.heap_drewN] at * <;> omega)) _) (hb.mono (by first | omega | (simp only [szA, szS, szD, World.heap_drewN] at * <;> omega))) : Below w.heap.size w w2)
    have Z2 := hb.size
    have N2 : w1.heap.size + 1 ≤ w2.heap.size := (by first | with_reducible exact Z2 | (simp only [szA, szS, szD] at Z2; omega))
    clear Z2
    have Xo_2 : Hid (w2.heap[w1.heap.size]? = some (.cells #[.int .i64 x0, .int .i64 x1, .int .i64 x2] 24 (0, 0))) := below_at hb (heap_at' (n := w1.heap.size) (by first | omega | (simp only [szA, szS, szD, World.heap_drewN] at * <;> omega)))
    clear hb
    obtain ⟨co2_0, co2_1, co2_2, fo2_0, fo2_1, fo2_2⟩ := box3 Xo_2.out; have lo2 := heap_lt Xo_2.out
    have S2 : w.heap.size ≤ w2.heap.size := (by omega)
    go_wp2_with (fail)
    refine (sFormatOp_calls (x0, x1, x2) _ HI.out.2.1 HI.out.2.2).mono ?_
    rw [HS.out]
    rintro e w3 ⟨rfl, hb⟩
    have B3 := Lib.hid (Below.trans B2.out (hb.mono (by first | omega | (simp only [szA, szS, szD, World.heap_drewN] at * <;> omega))) : Below w.heap.size w w3)
    have Z3 := hb.size
    have N3 : w2.heap.size ≤ w3.heap.size := (by first | with_reducible exact Z3 | (simp only [szA, szS, szD] at Z3; omega))
    clear Z3
    have Xo_3 := Lib.hid (below_at hb Xo_2.out)
    clear hb
    obtain ⟨co3_0, co3_1, co3_2, fo3_0, fo3_1, fo3_2⟩ := box3 Xo_3.out; have lo3 := heap_lt Xo_3.out
    have S3 : w.heap.size ≤ w3.heap.size := (by omega)
    clear co2_0 co2_1 co2_2 fo2_0 fo2_1 fo2_2
    have q0 : (s.toList == s.toList) = true := beq_self_eq_true _
    go_wp2_with (fail)
    go_loopw [5] (fun jv wr => ∃ j : Int, jv = .int .i64 j ∧ 1 ≤ j ∧ j ≤ 11 ∧ wr.heap[w1.heap.size]? = some (.cells #[.int .i64 x0, .int .i64 x1, .int .i64 x2] 24 (0, 0)) ∧ Below w.heap.size w wr) (fun jv _ => (11 - intOf jv).toNat)
    case atStart => exact ⟨1, rfl, by omega, by omega, Xo_3.out, B3.out⟩
    case round =>
      obtain ⟨w20, rfl⟩ : ∃ x : World, x = wr := ⟨_, rfl⟩
      obtain ⟨j, rfl, hj1, hj2, hx, hb⟩ := hrel
      have B20 := Lib.hid hb; have S20 := hb.size; have Xo_20 := Lib.hid hx; clear hb hx
      obtain ⟨co20_0, co20_1, co20_2, fo20_0, fo20_1, fo20_2⟩ := box3 Xo_20.out; have lo20 := heap_lt Xo_20.out
      by_cases hj : j ≤ 10
      · have d5 : decide (j ≤ 10) = true := decide_eq_true hj
        by_cases he : j = x0
        · have d6 : (j == x0) = true := beq_iff_eq.2 he
          have d8 : (j != x0) = false := by rw [bne, d6]; rfl
          clear he
          go_wp2_with (fail)
          go_roundw
          case rel => exact ⟨j + 1, by go_num, by omega, by omega, (heap_up Xo_20.out), (Below.alloc B20.out (by first | omega | (simp only [szA, szS, szD, World.heap_drewN] at * <;> omega)) _)⟩
          case measure => (simp [intOf] <;> omega)
        · have d6 : (j == x0) = false := beq_eq_false_iff_ne.2 he
          have d8 : (j != x0) = true := by rw [bne, d6]; rfl
          obtain ⟨t, ht⟩ : ∃ t, opText (j, x1, x2) = t := ⟨_, rfl⟩
          have q3 := str_ne (s := t) (t := s) (by rw [← ht, ← HS.out]; exact opText_kinds ⟨hj1, hj⟩ HK.out he)
          have HT := Lib.hid ht; clear ht
          have d7 : ¬ j = x0 := he
          clear he
          go_wp2_with (fail)
          refine (FormatOp_calls (j, x1, x2) _ (HL.out.below (Below.alloc B20.out (by first | omega | (simp only [szA, szS, szD, World.heap_drewN] at * <;> omega)) _)) HI.out.2.1 HI.out.2.2).mono ?_
          rw [HT.out]
          rintro e w21 ⟨rfl, hb⟩
          have B21 := Lib.hid (Below.trans (Below.alloc B20.out (by first | omega | (simp only [szA, szS, szD, World.heap_drewN] at * <;> omega)) _) (hb.mono (by first | omega | (simp only [szA, szS, szD, World.heap_drewN] at * <;> omega))) : Below w.heap.size w w21)
          have Z21 := hb.size
          have N21 : w20.heap.size + 1 ≤ w21.heap.size := (by first | with_reducible exact Z21 | (simp only [szA, szS, szD] at Z21; omega))
          clear Z21
          have Xo_21 := Lib.hid (below_at hb (heap_up Xo_20.out))
          have Xy_21 : Hid (w21.heap[w20.heap.size]? = some (.cells #[.int .i64 j, .int .i64 x1, .int .i64 x2] 24 (0, 0))) := below_at hb (heap_at' (n := w20.heap.size) (by first | omega | (simp only [szA, szS, szD, World.heap_drewN] at * <;> omega)))
          clear hb
          obtain ⟨co21_0, co21_1, co21_2, fo21_0, fo21_1, fo21_2⟩ := box3 Xo_21.out; have lo21 := heap_lt Xo_21.out
          obtain ⟨cy21_0, cy21_1, cy21_2, fy21_0, fy21_1, fy21_2⟩ := box3 Xy_21.out; have ly21 := heap_lt Xy_21.out
          have S21 : w.heap.size ≤ w21.heap.size := (by omega)
          go_wp2_with (fail)
          go_roundw
          case rel => exact ⟨j + 1, by go_num, by omega, by omega, Xo_21.out, B21.out⟩
          case measure => (simp [intOf] <;> omega)
      · have d5 : decide (j ≤ 10) = false := decide_eq_false hj
        go_wp2
        go_ret
        exact ⟨rfl, B20.out⟩
  · go_enter Tryd.func3, Tryd.ntmps3
    go_wp2
    go_ret
    exact ⟨rfl, Below.refl _ _⟩
end Go.Proofs.YtchlacepeckeaaaDoor
