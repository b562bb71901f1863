/- l1Draw: a semaphore that is drawn is valid. -/
import Derived.Test.YtmmkbiljjhigfaaDrawNewSem
import Derived.Test.YtmmkbiljjhigfaaSemNew
import Derived.Test.YtmmkbiljjhigfaaAcquireS
import Derived.Test.YtmmkbiljjhigfaaRelease
import Derived.Test.YtmmkbiljjhigfaaSemLaws
import Derived.Test.YtmmkbiljjhigfaaSet3
namespace Go.Proofs.Ytmmkbiljjhigfaa
open Go.RowKit
set_option linter.unusedSimpArgs false
set_option linter.unusedVariables false
set_option maxHeartbeats 8000000 in
theorem l1Draw_calls (b N : Nat) (w : World) (h : Rd w b N) (hN : N ≤ 900000) :
    Calls Try.prog 87 #[.pointer (some ⟨b, 0, none⟩)] w fun e w' => ∃ f l qv q, e = .returned (.agg #[.int .i64 f, .int .i64 l, qv]) ∧
      Own w.heap.size 62 2 encP w' qv q ∧ semB ⟨f, l, q⟩ = true ∧ Rd w' b (N + 100) ∧ w.grownBy w' (some b) := by
  have HH := Lib.hid h; have hlt := h.lt; clear h
  go_enter Try.func87, Try.ntmps87
  go_wp2_with (fail)
  refine (num_calls b N _ [2, 1, 3, 4, 9] _ ((HH.out.alloc _).alloc _) (by omega) (lit_row _ (by decide) rfl rfl (by first | omega | (simp only [szA, szS, szD, World.heap_drewN] at * <;> omega))) (by decide) (by simp [Value.ownBlock]; omega)).mono ?_
  rintro e w1 ⟨x, rfl, hx, hr, hg⟩
  have hx' : 1 ≤ x ∧ x ≤ 9 := by simp at hx; omega
  obtain ⟨hx1, hx2⟩ := hx'
  have hn : newSem x = ⟨x, x, []⟩ := if_pos ⟨hx1, hx2⟩
  have hv : newSemB x = true := by simp [newSemB]; omega
  have HV := Lib.hid hv; have HN := Lib.hid hn; clear hv hn
  have R1 := Lib.hid hr
  have G1 := Lib.hid ((grown_alloc (grown_alloc (World.grownBy.refl w (some b)) _) _).trans hg : w.grownBy w1 (some b))
  have X1 := Lib.hid (grown_at hg (heap_up (heap_at w _)) (by first | omega | (simp only [szA, szS, szD, World.heap_drewN] at * <;> omega)))
  have S1 := G1.out.size
  have Z1 := hg.size
  clear hr hg hx
  go_wp2_with (fail)
  refine (sNewSem_calls x _).mono ?_
  rw [HN.out, HV.out]
  rintro e w2 ⟨qs, rfl, ho, hb⟩
  have G2 := Lib.hid (grown_later G1.out hb)
  have X2 := Lib.hid (below_at hb X1.out)
  have LX2 := heap_lt X2.out
  have R2 := Lib.hid (R1.out.below hb)
  have S2 := G2.out.size
  have Z2 := hb.size
  have O2 := Lib.hid ho
  obtain ⟨ad2, cp2, rfl⟩ := ho.form
  clear ho hb
  go_wp2_with (fail)
  refine (num_calls b (N + 1) _ [4, 3, 6, 2, 0] _ ((R2.out.alloc _).alloc _) (by omega) (lit_row _ (by decide) rfl rfl (by first | omega | (simp only [szA, szS, szD, World.heap_drewN] at * <;> omega))) (by decide) (by simp [Value.ownBlock]; omega)).mono ?_
  rintro e w3 ⟨i, rfl, hi, hr, hg⟩
  have hi' : 0 ≤ i ∧ i ≤ 6 := by simp at hi; omega
  obtain ⟨hi1, hi2⟩ := hi'
  obtain ⟨i, rfl⟩ := Int.eq_ofNat_of_zero_le hi1
  have R3 := Lib.hid hr
  have G3 := Lib.hid ((grown_alloc (grown_alloc G2.out _) _).trans hg : w.grownBy w3 (some b))
  have X3 := Lib.hid (grown_at hg (heap_up (heap_up X2.out)) (by first | omega | (simp only [szA, szS, szD, World.heap_drewN] at * <;> omega)))
  have Y3 := Lib.hid (grown_at hg (heap_up (heap_at w2 _)) (by first | omega | (simp only [szA, szS, szD, World.heap_drewN] at * <;> omega)))
  have O3 := Lib.hid (Own.past (Own.mono ((O2.out.alloc _).alloc _) S1) hg hlt)
  have S3 := G3.out.size
  have Z3 := hg.size
  clear hr hg hi
  go_wp2_with (fail)
  go_loopw [5] (fun v wr => ∃ (k : Nat) (f l : Int) (qv : Value) (q : List (Int × Int)), k ≤ 6 ∧ v = .int .i64 k ∧ wr.heap[w2.heap.size]? = some (.cells #[.int .i64 f, .int .i64 l, qv] 48 (0, 0)) ∧ wr.heap[w.heap.size]? = some (.cells #[.int .i64 0, .int .i64 0, .slice none 0 0] 48 (0, 0)) ∧
    Own w.heap.size 62 2 encP wr qv q ∧ semB ⟨f, l, q⟩ = true ∧ Rd wr b (N + 2 + 4 * (6 - k)) ∧ w.grownBy wr (some b) ∧ w3.heap.size ≤ wr.heap.size) (fun v _ => (intOf v).toNat)
  case atStart => exact ⟨i, x, x, _, [], by omega, rfl, Y3.out, X3.out, O3.out, semB_yes (by simp [SemHead]; omega) (by simp) (show distB [] = true by decide) (by simp), R3.out.mono (by omega), G3.out, Nat.le_refl _⟩
  case round =>
    obtain ⟨k, f, l, qv, q, hk, rfl, hY, hX, hO, hB, hR, hG, hZ⟩ := hrel
    have HY := Lib.hid hY; have HX := Lib.hid hX; have HO := Lib.hid hO; have HR := Lib.hid hR; have HG := Lib.hid hG; have HB := Lib.hid hB
    obtain ⟨ad, cp, rfl⟩ := hO.form
    have hsz := hG.size
    obtain ⟨c0, c1, c2, f0, f1, f2⟩ := box3 hY
    obtain ⟨d0, d1, d2, g0, g1, g2⟩ := box3 hX
    have L1 := heap_lt hY
    have L2 := heap_lt hX
    clear hX hY hO hB hR hG
    by_cases hk0 : 0 < k
    · clear d0 d1 d2 g0 g1 g2 L2
      go_wp2_with (fail)
      refine (pick_calls b _ 4 _ HR.out (by omega) (by decide)).mono ?_
      rintro e w4 ⟨x, rfl, hx0, hx1, hr, hg⟩
      have R4 := Lib.hid hr
      have G4 := Lib.hid (HG.out.trans hg)
      have X4 := Lib.hid (grown_at hg HX.out (by first | omega | (simp only [szA, szS, szD, World.heap_drewN] at * <;> omega)))
      have Y4 := Lib.hid (grown_at hg HY.out (by first | omega | (simp only [szA, szS, szD, World.heap_drewN] at * <;> omega)))
      have O4 := Lib.hid (HO.out.past hg hlt)
      have Z4 := hg.size
      have S4 := G4.out.size
      obtain ⟨c40, c41, c42, f40, f41, f42⟩ := box3 Y4.out
      have L4 := heap_lt Y4.out
      clear hr hg c0 c1 c2 f0 f1 f2
      have n4 : w4.heap.size ≠ w2.heap.size := Nat.ne_of_gt L4
      have hne4 : w4.heap.size ≠ b := by omega
      by_cases hx : x = 0
      · subst hx
        go_wp2_with (fail)
        go_region_held3 (fun w' => w'.cell? ⟨w2.heap.size, 0, none⟩ = some (.int .i64 f) ∧ w'.cell? ⟨w2.heap.size, 1, none⟩ = some (.int .i64 l) ∧ w'.cell? ⟨w2.heap.size, 2, none⟩ = some (.slice ad q.length cp)) (go_keep)
          (first
            | (go_at_call 68; refine (pick_calls b (N + 2 + 4 * (6 - k) + 1) 2 _ ?hr (by omega) (by decide)).mono ?_; (case hr => first | exact R4.out | exact R4.out.alloc _); rintro e w5 ⟨y, rfl, hy0, hy1, hr, hg⟩; have R5 := Lib.hid hr; have E5 := Lib.hid hg; have Y5 := Lib.hid (grown_at hg (by first | exact Y4.out | exact heap_up Y4.out) (by first | omega | (simp only [szA, szS, szD, World.heap_drewN] at * <;> omega))); have X5 := Lib.hid (grown_at hg (by first | exact X4.out | exact heap_up X4.out) (by first | omega | (simp only [szA, szS, szD, World.heap_drewN] at * <;> omega))); have O5 := Lib.hid (Own.past (by first | exact O4.out | exact O4.out.alloc _) hg hlt); (try (have T5 := Lib.hid (grown_at hg (heap_at w4 _) hne4))); have hw5 : IntKind.i64.wrap (1 + y) = 1 + y := IntWalk.i64_in _ (by omega);  obtain ⟨c50, c51, c52, f50, f51, f52⟩ := box3 Y5.out; have L5 := heap_lt Y5.out; have G5 := Lib.hid (World.grownBy.trans (by first | exact grown_drew G4.out | exact grown_drew (grown_alloc G4.out _)) hg : w.grownBy w5 (some b)); have Z5 : w4.heap.size ≤ w5.heap.size := (by first | exact hg.size | exact Nat.le_trans (alloc_le _ _) hg.size); have S5 := G5.out.size; have n5 : w5.heap.size ≠ w2.heap.size := Nat.ne_of_gt L5; clear hr hg)
            | (go_at_call 93; refine (sRelease_calls f l (1 + y) (.slice ad q.length cp) q _ ?hr).mono ?_; (case hr => first | exact O5.out.row encP_len | exact (O5.out.alloc _).row encP_len); rintro e w6 ⟨qw, gw, rfl, ho, hgw, hb⟩; have O6 := Lib.hid ho; obtain ⟨ad6, cp6, rfl⟩ := ho.form; have E6 := Lib.hid hb; have Y6 := Lib.hid (below_at hb (by first | exact Y5.out | exact heap_up Y5.out)); have X6 := Lib.hid (below_at hb (by first | exact X5.out | exact heap_up X5.out));  have Z6 : w5.heap.size ≤ w6.heap.size := (by first | exact hb.size | exact Nat.le_trans (alloc_le _ _) hb.size); obtain ⟨c60, c61, c62, f60, f61, f62⟩ := box3 Y6.out; have L6 := heap_lt Y6.out; have G6 := Lib.hid (grown_later (by first | exact G5.out | exact grown_alloc G5.out _) hb : w.grownBy w6 (some b)); have R6 := Lib.hid (Rd.below (by first | exact R5.out | exact R5.out.alloc _) hb); have P6 := Lib.hid (Own.kept (by first | exact O5.out | exact O5.out.alloc _) hb); have NYo := P6.out.ne Y6.out (by decide); have O6' := Lib.hid (O6.out.mono (base' := w5.heap.size) (by first | exact Nat.le_refl _ | exact alloc_le _ _)); have NYn := O6.out.ne Y6.out (by decide); (first | (have T6 := Lib.hid (below_at hb T5.out); obtain ⟨t60, t61, t62, u60, u61, u62⟩ := box3 T6.out; have M6 := heap_lt T6.out; have NTo := P6.out.ne T6.out (by decide); have NTn := O6.out.ne T6.out (by decide)) | (have T6 := Lib.hid (below_at hb (heap_at w5 _)); obtain ⟨t60, t61, t62, u60, u61, u62⟩ := box3 T6.out; have M6 := heap_lt T6.out; have NTo := P6.out.ne T6.out (by decide); have NTn := O6.out.ne T6.out (by decide)) | skip); have S6 := G6.out.size; have n6 : w6.heap.size ≠ w2.heap.size := Nat.ne_of_gt L6; clear ho hgw hb))
        all_goals (cases hok : (rel ⟨f, l, q⟩ (1 + y)).2.2)
        all_goals go_wp2
        all_goals go_roundw
        all_goals (try (case measure => simp [intOf]; omega))
        · refine ⟨k - 1, f, l, .slice ad q.length cp, q, by omega, by go_num, ?_, ?_, ?_, HB.out, ?_, ?_, ?_⟩
          · (repeat (first | (with_reducible exact Y6.out) | with_reducible refine heap_up ?_ | with_reducible refine set3_off ?_ (by omega)))
          · (repeat (first | (with_reducible exact X6.out) | with_reducible refine heap_up ?_ | with_reducible refine set3_off ?_ (by omega)))
          · (repeat (first | (with_reducible exact P6.out) | with_reducible refine set3_own ?_ (by assumption) | with_reducible refine Own.alloc ?_ _))
          · refine Rd.mono (N := N + 2 + 4 * (6 - k) + 2) ?_ (by omega)
            (repeat (first | (with_reducible exact R6.out) | with_reducible refine set3_rd ?_ (by repeat (first | (with_reducible exact Y6.out) | (with_reducible exact T6.out) | with_reducible refine heap_up ?_ | with_reducible refine set3_off ?_ (by omega))) (by omega) | with_reducible refine Rd.alloc ?_ _))
          · (repeat (first | (with_reducible exact G6.out) | with_reducible refine set3_grown ?_ (by omega) | with_reducible refine grown_alloc ?_ _))
          · simp only [set3_size, szA, szS]; omega
        · have hk2 := semB_rel hok
          refine ⟨k - 1, (rel ⟨f, l, q⟩ (1 + y)).1.free, (rel ⟨f, l, q⟩ (1 + y)).1.limit, .slice ad6 (rel ⟨f, l, q⟩ (1 + y)).1.q.length cp6, (rel ⟨f, l, q⟩ (1 + y)).1.q, by omega, by go_num, ?_, ?_, ?_, hk2, ?_, ?_, ?_⟩
          · (repeat (first | (with_reducible exact Y6.out) | with_reducible refine heap_up ?_ | (with_reducible refine set3_at (x := .int .i64 f) (y := .int .i64 l) (z := .slice ad q.length cp) ?_) | with_reducible refine set3_off ?_ (by omega)))
          · (repeat (first | (with_reducible exact X6.out) | with_reducible refine heap_up ?_ | with_reducible refine set3_off ?_ (by omega)))
          · refine Own.mono (base := w5.heap.size) ?_ S5
            (repeat (first | (with_reducible exact O6'.out) | with_reducible refine set3_own ?_ (by assumption) | with_reducible refine Own.alloc ?_ _))
          · refine Rd.mono (N := N + 2 + 4 * (6 - k) + 2) ?_ (by omega)
            (repeat (first | (with_reducible exact R6.out) | with_reducible refine set3_rd ?_ (by repeat (first | (with_reducible exact Y6.out) | (with_reducible exact T6.out) | with_reducible refine heap_up ?_ | with_reducible refine set3_off ?_ (by omega))) (by omega) | with_reducible refine Rd.alloc ?_ _))
          · (repeat (first | (with_reducible exact G6.out) | with_reducible refine set3_grown ?_ (by omega) | with_reducible refine grown_alloc ?_ _))
          · simp only [set3_size, szA, szS]; omega
        · refine ⟨k - 1, f, l, .slice ad q.length cp, q, by omega, by go_num, ?_, ?_, ?_, HB.out, ?_, ?_, ?_⟩
          · (repeat (first | (with_reducible exact Y6.out) | with_reducible refine heap_up ?_ | with_reducible refine set3_off ?_ (by omega)))
          · (repeat (first | (with_reducible exact X6.out) | with_reducible refine heap_up ?_ | with_reducible refine set3_off ?_ (by omega)))
          · (repeat (first | (with_reducible exact P6.out) | with_reducible refine set3_own ?_ (by assumption) | with_reducible refine Own.alloc ?_ _))
          · refine Rd.mono (N := N + 2 + 4 * (6 - k) + 2) ?_ (by omega)
            (repeat (first | (with_reducible exact R6.out) | with_reducible refine set3_rd ?_ (by repeat (first | (with_reducible exact Y6.out) | (with_reducible exact T6.out) | with_reducible refine heap_up ?_ | with_reducible refine set3_off ?_ (by omega))) (by omega) | with_reducible refine Rd.alloc ?_ _))
          · (repeat (first | (with_reducible exact G6.out) | with_reducible refine set3_grown ?_ (by omega) | with_reducible refine grown_alloc ?_ _))
          · simp only [set3_size, szA, szS]; omega
        · have hk2 := semB_rel hok
          refine ⟨k - 1, (rel ⟨f, l, q⟩ (1 + y)).1.free, (rel ⟨f, l, q⟩ (1 + y)).1.limit, .slice ad6 (rel ⟨f, l, q⟩ (1 + y)).1.q.length cp6, (rel ⟨f, l, q⟩ (1 + y)).1.q, by omega, by go_num, ?_, ?_, ?_, hk2, ?_, ?_, ?_⟩
          · (repeat (first | (with_reducible exact Y6.out) | with_reducible refine heap_up ?_ | (with_reducible refine set3_at (x := .int .i64 f) (y := .int .i64 l) (z := .slice ad q.length cp) ?_) | with_reducible refine set3_off ?_ (by omega)))
          · (repeat (first | (with_reducible exact X6.out) | with_reducible refine heap_up ?_ | with_reducible refine set3_off ?_ (by omega)))
          · refine Own.mono (base := w5.heap.size) ?_ S5
            (repeat (first | (with_reducible exact O6'.out) | with_reducible refine set3_own ?_ (by assumption) | with_reducible refine Own.alloc ?_ _))
          · refine Rd.mono (N := N + 2 + 4 * (6 - k) + 2) ?_ (by omega)
            (repeat (first | (with_reducible exact R6.out) | with_reducible refine set3_rd ?_ (by repeat (first | (with_reducible exact Y6.out) | (with_reducible exact T6.out) | with_reducible refine heap_up ?_ | with_reducible refine set3_off ?_ (by omega))) (by omega) | with_reducible refine Rd.alloc ?_ _))
          · (repeat (first | (with_reducible exact G6.out) | with_reducible refine set3_grown ?_ (by omega) | with_reducible refine grown_alloc ?_ _))
          · simp only [set3_size, szA, szS]; omega
        · refine ⟨k - 1, f, l, .slice ad q.length cp, q, by omega, by go_num, ?_, ?_, ?_, HB.out, ?_, ?_, ?_⟩
          · (repeat (first | (with_reducible exact Y6.out) | with_reducible refine heap_up ?_ | with_reducible refine set3_off ?_ (by omega)))
          · (repeat (first | (with_reducible exact X6.out) | with_reducible refine heap_up ?_ | with_reducible refine set3_off ?_ (by omega)))
          · (repeat (first | (with_reducible exact P6.out) | with_reducible refine set3_own ?_ (by assumption) | with_reducible refine Own.alloc ?_ _))
          · refine Rd.mono (N := N + 2 + 4 * (6 - k) + 2) ?_ (by omega)
            (repeat (first | (with_reducible exact R6.out) | with_reducible refine set3_rd ?_ (by repeat (first | (with_reducible exact Y6.out) | (with_reducible exact T6.out) | with_reducible refine heap_up ?_ | with_reducible refine set3_off ?_ (by omega))) (by omega) | with_reducible refine Rd.alloc ?_ _))
          · (repeat (first | (with_reducible exact G6.out) | with_reducible refine set3_grown ?_ (by omega) | with_reducible refine grown_alloc ?_ _))
          · simp only [set3_size, szA, szS]; omega
        · have hk2 := semB_rel hok
          refine ⟨k - 1, (rel ⟨f, l, q⟩ (1 + y)).1.free, (rel ⟨f, l, q⟩ (1 + y)).1.limit, .slice ad6 (rel ⟨f, l, q⟩ (1 + y)).1.q.length cp6, (rel ⟨f, l, q⟩ (1 + y)).1.q, by omega, by go_num, ?_, ?_, ?_, hk2, ?_, ?_, ?_⟩
          · (repeat (first | (with_reducible exact Y6.out) | with_reducible refine heap_up ?_ | (with_reducible refine set3_at (x := .int .i64 f) (y := .int .i64 l) (z := .slice ad q.length cp) ?_) | with_reducible refine set3_off ?_ (by omega)))
          · (repeat (first | (with_reducible exact X6.out) | with_reducible refine heap_up ?_ | with_reducible refine set3_off ?_ (by omega)))
          · refine Own.mono (base := w5.heap.size) ?_ S5
            (repeat (first | (with_reducible exact O6'.out) | with_reducible refine set3_own ?_ (by assumption) | with_reducible refine Own.alloc ?_ _))
          · refine Rd.mono (N := N + 2 + 4 * (6 - k) + 2) ?_ (by omega)
            (repeat (first | (with_reducible exact R6.out) | with_reducible refine set3_rd ?_ (by repeat (first | (with_reducible exact Y6.out) | (with_reducible exact T6.out) | with_reducible refine heap_up ?_ | with_reducible refine set3_off ?_ (by omega))) (by omega) | with_reducible refine Rd.alloc ?_ _))
          · (repeat (first | (with_reducible exact G6.out) | with_reducible refine set3_grown ?_ (by omega) | with_reducible refine grown_alloc ?_ _))
          · simp only [set3_size, szA, szS]; omega
      · have e1 : decide (x = 0) = false := decide_eq_false hx
        have hn40 : w4.heap.size ≠ b := hne4
        have hn41 : w4.heap.size + 1 ≠ b := by omega
        have n41 : w4.heap.size + 1 ≠ w2.heap.size := by omega
        go_wp2_with (fail)
        go_region_held3 (fun w' => w'.cell? ⟨w2.heap.size, 0, none⟩ = some (.int .i64 f) ∧ w'.cell? ⟨w2.heap.size, 1, none⟩ = some (.int .i64 l) ∧ w'.cell? ⟨w2.heap.size, 2, none⟩ = some (.slice ad q.length cp)) (go_keep)
          (first
            | (go_at_call 68; refine (pick_calls b (N + 2 + 4 * (6 - k) + 1) 6 _ ?hr (by omega) (by decide)).mono ?_; (case hr => first | exact R4.out | exact R4.out.alloc _ | exact (R4.out.alloc _).alloc _); rintro e w5 ⟨y, rfl, hy0, hy1, hr, hg⟩; have R5 := Lib.hid hr; have G5 := Lib.hid (World.grownBy.trans (by first | exact grown_drew (G4.out) | exact grown_drew (grown_alloc G4.out _) | exact grown_drew (grown_alloc (grown_alloc G4.out _) _)) hg : w.grownBy w5 (some b)); have Y5 := Lib.hid (grown_at hg (by first | exact Y4.out | exact heap_up Y4.out | exact heap_up (heap_up Y4.out)) (by omega)); have X5 := Lib.hid (grown_at hg (by first | exact X4.out | exact heap_up X4.out | exact heap_up (heap_up X4.out)) (by omega)); have O5 := Lib.hid (Own.past (by first | exact O4.out | exact O4.out.alloc _ | exact ((O4.out.alloc _).alloc _)) hg hlt); have Z5 : w4.heap.size ≤ w5.heap.size := (by first | exact hg.size | exact Nat.le_trans (alloc_le _ _) hg.size | exact Nat.le_trans (Nat.le_trans (alloc_le _ _) (alloc_le _ _)) hg.size); have S5 := G5.out.size; obtain ⟨c50, c51, c52, f50, f51, f52⟩ := box3 Y5.out; have L5 := heap_lt Y5.out; have n5 : w5.heap.size ≠ w2.heap.size := Nat.ne_of_gt L5; (first | (have T5 : Hid (w5.heap[w4.heap.size]? = some (.cells #[.int .i64 0, .int .i64 0, .slice none 0 0] 48 (0, 0))) := Lib.hid (grown_at hg (heap_at w4 _) hn40)) | (have T5 : Hid (w5.heap[w4.heap.size]? = some (.cells #[.int .i64 0, .int .i64 0, .slice none 0 0] 48 (0, 0))) := Lib.hid (grown_at hg (heap_up (heap_at w4 _)) hn40)) | (have T5 : Hid (w5.heap[w4.heap.size + 1]? = some (.cells #[.int .i64 0, .int .i64 0, .slice none 0 0] 48 (0, 0))) := Lib.hid (grown_at hg (heap_at1 w4 _ _) hn41)) | skip); (first | (have B5 : Hid (w5.heap[w4.heap.size]? = some (.cells #[.int .i64 1, .int .i64 2, .int .i64 1, .int .i64 3] 3 (0, 0))) := Lib.hid (grown_at hg (heap_at w4 _) hn40)) | (have B5 : Hid (w5.heap[w4.heap.size]? = some (.cells #[.int .i64 1, .int .i64 2, .int .i64 1, .int .i64 3] 3 (0, 0))) := Lib.hid (grown_at hg (heap_up (heap_at w4 _)) hn40)) | (have B5 : Hid (w5.heap[w4.heap.size + 1]? = some (.cells #[.int .i64 1, .int .i64 2, .int .i64 1, .int .i64 3] 3 (0, 0))) := Lib.hid (grown_at hg (heap_at1 w4 _ _) hn41)) | skip); have hn50 : w5.heap.size ≠ b := (by omega); have hn51 : w5.heap.size + 1 ≠ b := (by omega); have n51 : w5.heap.size + 1 ≠ w2.heap.size := (by omega); clear hr hg)
            | (go_at_call 53; refine (num_calls b (N + 2 + 4 * (6 - k) + 2) _ [1, 2, 1, 3] _ ?hr (by omega) ?hl (by decide) ?hb).mono ?_; (case hr => first | exact R5.out | exact R5.out.alloc _ | exact (R5.out.alloc _).alloc _); (case hl => first | exact lit_at B5.out rfl | exact lit_at (heap_up B5.out) rfl | exact lit_at (heap_at w5 _) rfl | exact lit_at (heap_up (heap_at w5 _)) rfl | exact lit_at (heap_at1 w5 _ _) rfl); (case hb => simp [Value.ownBlock]; omega); rintro e w6 ⟨z, rfl, hz, hr, hg⟩; have R6 := Lib.hid hr; have G6 := Lib.hid (World.grownBy.trans (by first | exact G5.out | exact grown_alloc G5.out _ | exact grown_alloc (grown_alloc G5.out _) _) hg : w.grownBy w6 (some b)); have Y6 := Lib.hid (grown_at hg (by first | exact Y5.out | exact heap_up Y5.out | exact heap_up (heap_up Y5.out)) (by omega)); have X6 := Lib.hid (grown_at hg (by first | exact X5.out | exact heap_up X5.out | exact heap_up (heap_up X5.out)) (by omega)); have O6 := Lib.hid (Own.past (by first | exact O5.out | exact O5.out.alloc _ | exact ((O5.out.alloc _).alloc _)) hg hlt); have Z6 : w5.heap.size ≤ w6.heap.size := (by first | exact hg.size | exact Nat.le_trans (alloc_le _ _) hg.size | exact Nat.le_trans (Nat.le_trans (alloc_le _ _) (alloc_le _ _)) hg.size); have S6 := G6.out.size; obtain ⟨c60, c61, c62, f60, f61, f62⟩ := box3 Y6.out; have L6 := heap_lt Y6.out; have n6 : w6.heap.size ≠ w2.heap.size := Nat.ne_of_gt L6; (first | (have T6 := Lib.hid (grown_at hg T5.out hn40)) | (have T6 := Lib.hid (grown_at hg (heap_up T5.out) hn40)) | (have T6 := Lib.hid (grown_at hg T5.out hn41)) | (have T6 := Lib.hid (grown_at hg (heap_up T5.out) hn41)) | (have T6 : Hid (w6.heap[w5.heap.size]? = some (.cells #[.int .i64 0, .int .i64 0, .slice none 0 0] 48 (0, 0))) := Lib.hid (grown_at hg (heap_at w5 _) hn50)) | (have T6 : Hid (w6.heap[w5.heap.size]? = some (.cells #[.int .i64 0, .int .i64 0, .slice none 0 0] 48 (0, 0))) := Lib.hid (grown_at hg (heap_up (heap_at w5 _)) hn50)) | (have T6 : Hid (w6.heap[w5.heap.size + 1]? = some (.cells #[.int .i64 0, .int .i64 0, .slice none 0 0] 48 (0, 0))) := Lib.hid (grown_at hg (heap_at1 w5 _ _) hn51)) | skip); clear hr hg hz)
            | (go_at_call 34; refine (sAcquire_calls f l y z (.slice ad q.length cp) q _ ?hr).mono ?_; (case hr => first | exact O6.out.row encP_len | exact (O6.out.alloc _).row encP_len); rintro e w7 ⟨qw, rfl, ho, hb⟩; have O7 := Lib.hid ho; obtain ⟨ad7, cp7, rfl⟩ := ho.form; have R7 := Lib.hid (Rd.below (by first | exact R6.out | exact R6.out.alloc _) hb); have G7 := Lib.hid (grown_later (by first | exact G6.out | exact grown_alloc G6.out _ | exact grown_alloc (grown_alloc G6.out _) _) hb : w.grownBy w7 (some b)); have Y7 := Lib.hid (below_at hb (by first | exact Y6.out | exact heap_up Y6.out | exact heap_up (heap_up Y6.out))); have X7 := Lib.hid (below_at hb (by first | exact X6.out | exact heap_up X6.out | exact heap_up (heap_up X6.out))); have P7 := Lib.hid (Own.kept (by first | exact O6.out | exact O6.out.alloc _ | exact ((O6.out.alloc _).alloc _)) hb); have Z7 : w6.heap.size ≤ w7.heap.size := (by first | exact hb.size | exact Nat.le_trans (alloc_le _ _) hb.size | exact Nat.le_trans (Nat.le_trans (alloc_le _ _) (alloc_le _ _)) hb.size); have S7 := G7.out.size; obtain ⟨c70, c71, c72, f70, f71, f72⟩ := box3 Y7.out; have L7 := heap_lt Y7.out; have n7 : w7.heap.size ≠ w2.heap.size := Nat.ne_of_gt L7; have NYo := P7.out.ne Y7.out (by decide); have NYn := O7.out.ne Y7.out (by decide); have O7' := Lib.hid (O7.out.mono (base' := w6.heap.size) (by first | exact Nat.le_refl _ | exact alloc_le _ _)); (first | (have T7 := Lib.hid (below_at hb T6.out); obtain ⟨t70, t71, t72, u70, u71, u72⟩ := box3 T7.out; have M7 := heap_lt T7.out; have NTo := P7.out.ne T7.out (by decide); have NTn := O7.out.ne T7.out (by decide)) | (have T7 := Lib.hid (below_at hb (heap_at w6 _)); obtain ⟨t70, t71, t72, u70, u71, u72⟩ := box3 T7.out; have M7 := heap_lt T7.out; have NTo := P7.out.ne T7.out (by decide); have NTn := O7.out.ne T7.out (by decide)) | skip); clear ho hb))
        all_goals (cases hok : (acq ⟨f, l, q⟩ y z).2.2)
        all_goals go_wp2
        all_goals go_roundw
        all_goals (try (case measure => simp [intOf]; omega))
        · refine ⟨k - 1, f, l, .slice ad q.length cp, q, by omega, by go_num, ?_, ?_, ?_, HB.out, ?_, ?_, ?_⟩
          · (repeat (first | (with_reducible exact Y7.out) | with_reducible refine heap_up ?_ | with_reducible refine set3_off ?_ (by omega)))
          · (repeat (first | (with_reducible exact X7.out) | with_reducible refine heap_up ?_ | with_reducible refine set3_off ?_ (by omega)))
          · (repeat (first | (with_reducible exact P7.out) | with_reducible refine set3_own ?_ (by assumption) | with_reducible refine Own.alloc ?_ _))
          · refine Rd.mono (N := N + 2 + 4 * (6 - k) + 3) ?_ (by omega)
            (repeat (first | (with_reducible exact R7.out) | with_reducible refine set3_rd ?_ (by repeat (first | (with_reducible exact Y7.out) | (with_reducible exact T7.out) | with_reducible refine heap_up ?_ | with_reducible refine set3_off ?_ (by omega))) (by omega) | with_reducible refine Rd.alloc ?_ _))
          · (repeat (first | (with_reducible exact G7.out) | with_reducible refine set3_grown ?_ (by omega) | with_reducible refine grown_alloc ?_ _))
          · simp only [set3_size, szA, szS]; omega
        · have hk2 := semB_acq hok
          refine ⟨k - 1, (acq ⟨f, l, q⟩ y z).1.free, (acq ⟨f, l, q⟩ y z).1.limit, .slice ad7 (acq ⟨f, l, q⟩ y z).1.q.length cp7, (acq ⟨f, l, q⟩ y z).1.q, by omega, by go_num, ?_, ?_, ?_, hk2, ?_, ?_, ?_⟩
          · (repeat (first | (with_reducible exact Y7.out) | with_reducible refine heap_up ?_ | (with_reducible refine set3_at (x := .int .i64 f) (y := .int .i64 l) (z := .slice ad q.length cp) ?_) | with_reducible refine set3_off ?_ (by omega)))
          · (repeat (first | (with_reducible exact X7.out) | with_reducible refine heap_up ?_ | with_reducible refine set3_off ?_ (by omega)))
          · refine Own.mono (base := w6.heap.size) ?_ S6
            (repeat (first | (with_reducible exact O7'.out) | with_reducible refine set3_own ?_ (by assumption) | with_reducible refine Own.alloc ?_ _))
          · refine Rd.mono (N := N + 2 + 4 * (6 - k) + 3) ?_ (by omega)
            (repeat (first | (with_reducible exact R7.out) | with_reducible refine set3_rd ?_ (by repeat (first | (with_reducible exact Y7.out) | (with_reducible exact T7.out) | with_reducible refine heap_up ?_ | with_reducible refine set3_off ?_ (by omega))) (by omega) | with_reducible refine Rd.alloc ?_ _))
          · (repeat (first | (with_reducible exact G7.out) | with_reducible refine set3_grown ?_ (by omega) | with_reducible refine grown_alloc ?_ _))
          · simp only [set3_size, szA, szS]; omega
        · refine ⟨k - 1, f, l, .slice ad q.length cp, q, by omega, by go_num, ?_, ?_, ?_, HB.out, ?_, ?_, ?_⟩
          · (repeat (first | (with_reducible exact Y7.out) | with_reducible refine heap_up ?_ | with_reducible refine set3_off ?_ (by omega)))
          · (repeat (first | (with_reducible exact X7.out) | with_reducible refine heap_up ?_ | with_reducible refine set3_off ?_ (by omega)))
          · (repeat (first | (with_reducible exact P7.out) | with_reducible refine set3_own ?_ (by assumption) | with_reducible refine Own.alloc ?_ _))
          · refine Rd.mono (N := N + 2 + 4 * (6 - k) + 3) ?_ (by omega)
            (repeat (first | (with_reducible exact R7.out) | with_reducible refine set3_rd ?_ (by repeat (first | (with_reducible exact Y7.out) | (with_reducible exact T7.out) | with_reducible refine heap_up ?_ | with_reducible refine set3_off ?_ (by omega))) (by omega) | with_reducible refine Rd.alloc ?_ _))
          · (repeat (first | (with_reducible exact G7.out) | with_reducible refine set3_grown ?_ (by omega) | with_reducible refine grown_alloc ?_ _))
          · simp only [set3_size, szA, szS]; omega
        · have hk2 := semB_acq hok
          refine ⟨k - 1, (acq ⟨f, l, q⟩ y z).1.free, (acq ⟨f, l, q⟩ y z).1.limit, .slice ad7 (acq ⟨f, l, q⟩ y z).1.q.length cp7, (acq ⟨f, l, q⟩ y z).1.q, by omega, by go_num, ?_, ?_, ?_, hk2, ?_, ?_, ?_⟩
          · (repeat (first | (with_reducible exact Y7.out) | with_reducible refine heap_up ?_ | (with_reducible refine set3_at (x := .int .i64 f) (y := .int .i64 l) (z := .slice ad q.length cp) ?_) | with_reducible refine set3_off ?_ (by omega)))
          · (repeat (first | (with_reducible exact X7.out) | with_reducible refine heap_up ?_ | with_reducible refine set3_off ?_ (by omega)))
          · refine Own.mono (base := w6.heap.size) ?_ S6
            (repeat (first | (with_reducible exact O7'.out) | with_reducible refine set3_own ?_ (by assumption) | with_reducible refine Own.alloc ?_ _))
          · refine Rd.mono (N := N + 2 + 4 * (6 - k) + 3) ?_ (by omega)
            (repeat (first | (with_reducible exact R7.out) | with_reducible refine set3_rd ?_ (by repeat (first | (with_reducible exact Y7.out) | (with_reducible exact T7.out) | with_reducible refine heap_up ?_ | with_reducible refine set3_off ?_ (by omega))) (by omega) | with_reducible refine Rd.alloc ?_ _))
          · (repeat (first | (with_reducible exact G7.out) | with_reducible refine set3_grown ?_ (by omega) | with_reducible refine grown_alloc ?_ _))
          · simp only [set3_size, szA, szS]; omega
        · refine ⟨k - 1, f, l, .slice ad q.length cp, q, by omega, by go_num, ?_, ?_, ?_, HB.out, ?_, ?_, ?_⟩
          · (repeat (first | (with_reducible exact Y7.out) | with_reducible refine heap_up ?_ | with_reducible refine set3_off ?_ (by omega)))
          · (repeat (first | (with_reducible exact X7.out) | with_reducible refine heap_up ?_ | with_reducible refine set3_off ?_ (by omega)))
          · (repeat (first | (with_reducible exact P7.out) | with_reducible refine set3_own ?_ (by assumption) | with_reducible refine Own.alloc ?_ _))
          · refine Rd.mono (N := N + 2 + 4 * (6 - k) + 3) ?_ (by omega)
            (repeat (first | (with_reducible exact R7.out) | with_reducible refine set3_rd ?_ (by repeat (first | (with_reducible exact Y7.out) | (with_reducible exact T7.out) | with_reducible refine heap_up ?_ | with_reducible refine set3_off ?_ (by omega))) (by omega) | with_reducible refine Rd.alloc ?_ _))
          · (repeat (first | (with_reducible exact G7.out) | with_reducible refine set3_grown ?_ (by omega) | with_reducible refine grown_alloc ?_ _))
          · simp only [set3_size, szA, szS]; omega
        · have hk2 := semB_acq hok
          refine ⟨k - 1, (acq ⟨f, l, q⟩ y z).1.free, (acq ⟨f, l, q⟩ y z).1.limit, .slice ad7 (acq ⟨f, l, q⟩ y z).1.q.length cp7, (acq ⟨f, l, q⟩ y z).1.q, by omega, by go_num, ?_, ?_, ?_, hk2, ?_, ?_, ?_⟩
          · (repeat (first | (with_reducible exact Y7.out) | with_reducible refine heap_up ?_ | (with_reducible refine set3_at (x := .int .i64 f) (y := .int .i64 l) (z := .slice ad q.length cp) ?_) | with_reducible refine set3_off ?_ (by omega)))
          · (repeat (first | (with_reducible exact X7.out) | with_reducible refine heap_up ?_ | with_reducible refine set3_off ?_ (by omega)))
          · refine Own.mono (base := w6.heap.size) ?_ S6
            (repeat (first | (with_reducible exact O7'.out) | with_reducible refine set3_own ?_ (by assumption) | with_reducible refine Own.alloc ?_ _))
          · refine Rd.mono (N := N + 2 + 4 * (6 - k) + 3) ?_ (by omega)
            (repeat (first | (with_reducible exact R7.out) | with_reducible refine set3_rd ?_ (by repeat (first | (with_reducible exact Y7.out) | (with_reducible exact T7.out) | with_reducible refine heap_up ?_ | with_reducible refine set3_off ?_ (by omega))) (by omega) | with_reducible refine Rd.alloc ?_ _))
          · (repeat (first | (with_reducible exact G7.out) | with_reducible refine set3_grown ?_ (by omega) | with_reducible refine grown_alloc ?_ _))
          · simp only [set3_size, szA, szS]; omega
        · refine ⟨k - 1, f, l, .slice ad q.length cp, q, by omega, by go_num, ?_, ?_, ?_, HB.out, ?_, ?_, ?_⟩
          · (repeat (first | (with_reducible exact Y7.out) | with_reducible refine heap_up ?_ | with_reducible refine set3_off ?_ (by omega)))
          · (repeat (first | (with_reducible exact X7.out) | with_reducible refine heap_up ?_ | with_reducible refine set3_off ?_ (by omega)))
          · (repeat (first | (with_reducible exact P7.out) | with_reducible refine set3_own ?_ (by assumption) | with_reducible refine Own.alloc ?_ _))
          · refine Rd.mono (N := N + 2 + 4 * (6 - k) + 3) ?_ (by omega)
            (repeat (first | (with_reducible exact R7.out) | with_reducible refine set3_rd ?_ (by repeat (first | (with_reducible exact Y7.out) | (with_reducible exact T7.out) | with_reducible refine heap_up ?_ | with_reducible refine set3_off ?_ (by omega))) (by omega) | with_reducible refine Rd.alloc ?_ _))
          · (repeat (first | (with_reducible exact G7.out) | with_reducible refine set3_grown ?_ (by omega) | with_reducible refine grown_alloc ?_ _))
          · simp only [set3_size, szA, szS]; omega
        · have hk2 := semB_acq hok
          refine ⟨k - 1, (acq ⟨f, l, q⟩ y z).1.free, (acq ⟨f, l, q⟩ y z).1.limit, .slice ad7 (acq ⟨f, l, q⟩ y z).1.q.length cp7, (acq ⟨f, l, q⟩ y z).1.q, by omega, by go_num, ?_, ?_, ?_, hk2, ?_, ?_, ?_⟩
          · (repeat (first | (with_reducible exact Y7.out) | with_reducible refine heap_up ?_ | (with_reducible refine set3_at (x := .int .i64 f) (y := .int .i64 l) (z := .slice ad q.length cp) ?_) | with_reducible refine set3_off ?_ (by omega)))
          · (repeat (first | (with_reducible exact X7.out) | with_reducible refine heap_up ?_ | with_reducible refine set3_off ?_ (by omega)))
          · refine Own.mono (base := w6.heap.size) ?_ S6
            (repeat (first | (with_reducible exact O7'.out) | with_reducible refine set3_own ?_ (by assumption) | with_reducible refine Own.alloc ?_ _))
          · refine Rd.mono (N := N + 2 + 4 * (6 - k) + 3) ?_ (by omega)
            (repeat (first | (with_reducible exact R7.out) | with_reducible refine set3_rd ?_ (by repeat (first | (with_reducible exact Y7.out) | (with_reducible exact T7.out) | with_reducible refine heap_up ?_ | with_reducible refine set3_off ?_ (by omega))) (by omega) | with_reducible refine Rd.alloc ?_ _))
          · (repeat (first | (with_reducible exact G7.out) | with_reducible refine set3_grown ?_ (by omega) | with_reducible refine grown_alloc ?_ _))
          · simp only [set3_size, szA, szS]; omega
        · refine ⟨k - 1, f, l, .slice ad q.length cp, q, by omega, by go_num, ?_, ?_, ?_, HB.out, ?_, ?_, ?_⟩
          · (repeat (first | (with_reducible exact Y7.out) | with_reducible refine heap_up ?_ | with_reducible refine set3_off ?_ (by omega)))
          · (repeat (first | (with_reducible exact X7.out) | with_reducible refine heap_up ?_ | with_reducible refine set3_off ?_ (by omega)))
          · (repeat (first | (with_reducible exact P7.out) | with_reducible refine set3_own ?_ (by assumption) | with_reducible refine Own.alloc ?_ _))
          · refine Rd.mono (N := N + 2 + 4 * (6 - k) + 3) ?_ (by omega)
            (repeat (first | (with_reducible exact R7.out) | with_reducible refine set3_rd ?_ (by repeat (first | (with_reducible exact Y7.out) | (with_reducible exact T7.out) | with_reducible refine heap_up ?_ | with_reducible refine set3_off ?_ (by omega))) (by omega) | with_reducible refine Rd.alloc ?_ _))
          · (repeat (first | (with_reducible exact G7.out) | with_reducible refine set3_grown ?_ (by omega) | with_reducible refine grown_alloc ?_ _))
          · simp only [set3_size, szA, szS]; omega
        · have hk2 := semB_acq hok
          refine ⟨k - 1, (acq ⟨f, l, q⟩ y z).1.free, (acq ⟨f, l, q⟩ y z).1.limit, .slice ad7 (acq ⟨f, l, q⟩ y z).1.q.length cp7, (acq ⟨f, l, q⟩ y z).1.q, by omega, by go_num, ?_, ?_, ?_, hk2, ?_, ?_, ?_⟩
          · (repeat (first | (with_reducible exact Y7.out) | with_reducible refine heap_up ?_ | (with_reducible refine set3_at (x := .int .i64 f) (y := .int .i64 l) (z := .slice ad q.length cp) ?_) | with_reducible refine set3_off ?_ (by omega)))
          · (repeat (first | (with_reducible exact X7.out) | with_reducible refine heap_up ?_ | with_reducible refine set3_off ?_ (by omega)))
          · refine Own.mono (base := w6.heap.size) ?_ S6
            (repeat (first | (with_reducible exact O7'.out) | with_reducible refine set3_own ?_ (by assumption) | with_reducible refine Own.alloc ?_ _))
          · refine Rd.mono (N := N + 2 + 4 * (6 - k) + 3) ?_ (by omega)
            (repeat (first | (with_reducible exact R7.out) | with_reducible refine set3_rd ?_ (by repeat (first | (with_reducible exact Y7.out) | (with_reducible exact T7.out) | with_reducible refine heap_up ?_ | with_reducible refine set3_off ?_ (by omega))) (by omega) | with_reducible refine Rd.alloc ?_ _))
          · (repeat (first | (with_reducible exact G7.out) | with_reducible refine set3_grown ?_ (by omega) | with_reducible refine grown_alloc ?_ _))
          · simp only [set3_size, szA, szS]; omega
        · refine ⟨k - 1, f, l, .slice ad q.length cp, q, by omega, by go_num, ?_, ?_, ?_, HB.out, ?_, ?_, ?_⟩
          · (repeat (first | (with_reducible exact Y7.out) | with_reducible refine heap_up ?_ | with_reducible refine set3_off ?_ (by omega)))
          · (repeat (first | (with_reducible exact X7.out) | with_reducible refine heap_up ?_ | with_reducible refine set3_off ?_ (by omega)))
          · (repeat (first | (with_reducible exact P7.out) | with_reducible refine set3_own ?_ (by assumption) | with_reducible refine Own.alloc ?_ _))
          · refine Rd.mono (N := N + 2 + 4 * (6 - k) + 3) ?_ (by omega)
            (repeat (first | (with_reducible exact R7.out) | with_reducible refine set3_rd ?_ (by repeat (first | (with_reducible exact Y7.out) | (with_reducible exact T7.out) | with_reducible refine heap_up ?_ | with_reducible refine set3_off ?_ (by omega))) (by omega) | with_reducible refine Rd.alloc ?_ _))
          · (repeat (first | (with_reducible exact G7.out) | with_reducible refine set3_grown ?_ (by omega) | with_reducible refine grown_alloc ?_ _))
          · simp only [set3_size, szA, szS]; omega
        · have hk2 := semB_acq hok
          refine ⟨k - 1, (acq ⟨f, l, q⟩ y z).1.free, (acq ⟨f, l, q⟩ y z).1.limit, .slice ad7 (acq ⟨f, l, q⟩ y z).1.q.length cp7, (acq ⟨f, l, q⟩ y z).1.q, by omega, by go_num, ?_, ?_, ?_, hk2, ?_, ?_, ?_⟩
          · (repeat (first | (with_reducible exact Y7.out) | with_reducible refine heap_up ?_ | (with_reducible refine set3_at (x := .int .i64 f) (y := .int .i64 l) (z := .slice ad q.length cp) ?_) | with_reducible refine set3_off ?_ (by omega)))
          · (repeat (first | (with_reducible exact X7.out) | with_reducible refine heap_up ?_ | with_reducible refine set3_off ?_ (by omega)))
          · refine Own.mono (base := w6.heap.size) ?_ S6
            (repeat (first | (with_reducible exact O7'.out) | with_reducible refine set3_own ?_ (by assumption) | with_reducible refine Own.alloc ?_ _))
          · refine Rd.mono (N := N + 2 + 4 * (6 - k) + 3) ?_ (by omega)
            (repeat (first | (with_reducible exact R7.out) | with_reducible refine set3_rd ?_ (by repeat (first | (with_reducible exact Y7.out) | (with_reducible exact T7.out) | with_reducible refine heap_up ?_ | with_reducible refine set3_off ?_ (by omega))) (by omega) | with_reducible refine Rd.alloc ?_ _))
          · (repeat (first | (with_reducible exact G7.out) | with_reducible refine set3_grown ?_ (by omega) | with_reducible refine grown_alloc ?_ _))
          · simp only [set3_size, szA, szS]; omega
        · refine ⟨k - 1, f, l, .slice ad q.length cp, q, by omega, by go_num, ?_, ?_, ?_, HB.out, ?_, ?_, ?_⟩
          · (repeat (first | (with_reducible exact Y7.out) | with_reducible refine heap_up ?_ | with_reducible refine set3_off ?_ (by omega)))
          · (repeat (first | (with_reducible exact X7.out) | with_reducible refine heap_up ?_ | with_reducible refine set3_off ?_ (by omega)))
          · (repeat (first | (with_reducible exact P7.out) | with_reducible refine set3_own ?_ (by assumption) | with_reducible refine Own.alloc ?_ _))
          · refine Rd.mono (N := N + 2 + 4 * (6 - k) + 3) ?_ (by omega)
            (repeat (first | (with_reducible exact R7.out) | with_reducible refine set3_rd ?_ (by repeat (first | (with_reducible exact Y7.out) | (with_reducible exact T7.out) | with_reducible refine heap_up ?_ | with_reducible refine set3_off ?_ (by omega))) (by omega) | with_reducible refine Rd.alloc ?_ _))
          · (repeat (first | (with_reducible exact G7.out) | with_reducible refine set3_grown ?_ (by omega) | with_reducible refine grown_alloc ?_ _))
          · simp only [set3_size, szA, szS]; omega
        · have hk2 := semB_acq hok
          refine ⟨k - 1, (acq ⟨f, l, q⟩ y z).1.free, (acq ⟨f, l, q⟩ y z).1.limit, .slice ad7 (acq ⟨f, l, q⟩ y z).1.q.length cp7, (acq ⟨f, l, q⟩ y z).1.q, by omega, by go_num, ?_, ?_, ?_, hk2, ?_, ?_, ?_⟩
          · (repeat (first | (with_reducible exact Y7.out) | with_reducible refine heap_up ?_ | (with_reducible refine set3_at (x := .int .i64 f) (y := .int .i64 l) (z := .slice ad q.length cp) ?_) | with_reducible refine set3_off ?_ (by omega)))
          · (repeat (first | (with_reducible exact X7.out) | with_reducible refine heap_up ?_ | with_reducible refine set3_off ?_ (by omega)))
          · refine Own.mono (base := w6.heap.size) ?_ S6
            (repeat (first | (with_reducible exact O7'.out) | with_reducible refine set3_own ?_ (by assumption) | with_reducible refine Own.alloc ?_ _))
          · refine Rd.mono (N := N + 2 + 4 * (6 - k) + 3) ?_ (by omega)
            (repeat (first | (with_reducible exact R7.out) | with_reducible refine set3_rd ?_ (by repeat (first | (with_reducible exact Y7.out) | (with_reducible exact T7.out) | with_reducible refine heap_up ?_ | with_reducible refine set3_off ?_ (by omega))) (by omega) | with_reducible refine Rd.alloc ?_ _))
          · (repeat (first | (with_reducible exact G7.out) | with_reducible refine set3_grown ?_ (by omega) | with_reducible refine grown_alloc ?_ _))
          · simp only [set3_size, szA, szS]; omega
        · refine ⟨k - 1, f, l, .slice ad q.length cp, q, by omega, by go_num, ?_, ?_, ?_, HB.out, ?_, ?_, ?_⟩
          · (repeat (first | (with_reducible exact Y7.out) | with_reducible refine heap_up ?_ | with_reducible refine set3_off ?_ (by omega)))
          · (repeat (first | (with_reducible exact X7.out) | with_reducible refine heap_up ?_ | with_reducible refine set3_off ?_ (by omega)))
          · (repeat (first | (with_reducible exact P7.out) | with_reducible refine set3_own ?_ (by assumption) | with_reducible refine Own.alloc ?_ _))
          · refine Rd.mono (N := N + 2 + 4 * (6 - k) + 3) ?_ (by omega)
            (repeat (first | (with_reducible exact R7.out) | with_reducible refine set3_rd ?_ (by repeat (first | (with_reducible exact Y7.out) | (with_reducible exact T7.out) | with_reducible refine heap_up ?_ | with_reducible refine set3_off ?_ (by omega))) (by omega) | with_reducible refine Rd.alloc ?_ _))
          · (repeat (first | (with_reducible exact G7.out) | with_reducible refine set3_grown ?_ (by omega) | with_reducible refine grown_alloc ?_ _))
          · simp only [set3_size, szA, szS]; omega
        · have hk2 := semB_acq hok
          refine ⟨k - 1, (acq ⟨f, l, q⟩ y z).1.free, (acq ⟨f, l, q⟩ y z).1.limit, .slice ad7 (acq ⟨f, l, q⟩ y z).1.q.length cp7, (acq ⟨f, l, q⟩ y z).1.q, by omega, by go_num, ?_, ?_, ?_, hk2, ?_, ?_, ?_⟩
          · (repeat (first | (with_reducible exact Y7.out) | with_reducible refine heap_up ?_ | (with_reducible refine set3_at (x := .int .i64 f) (y := .int .i64 l) (z := .slice ad q.length cp) ?_) | with_reducible refine set3_off ?_ (by omega)))
          · (repeat (first | (with_reducible exact X7.out) | with_reducible refine heap_up ?_ | with_reducible refine set3_off ?_ (by omega)))
          · refine Own.mono (base := w6.heap.size) ?_ S6
            (repeat (first | (with_reducible exact O7'.out) | with_reducible refine set3_own ?_ (by assumption) | with_reducible refine Own.alloc ?_ _))
          · refine Rd.mono (N := N + 2 + 4 * (6 - k) + 3) ?_ (by omega)
            (repeat (first | (with_reducible exact R7.out) | with_reducible refine set3_rd ?_ (by repeat (first | (with_reducible exact Y7.out) | (with_reducible exact T7.out) | with_reducible refine heap_up ?_ | with_reducible refine set3_off ?_ (by omega))) (by omega) | with_reducible refine Rd.alloc ?_ _))
          · (repeat (first | (with_reducible exact G7.out) | with_reducible refine set3_grown ?_ (by omega) | with_reducible refine grown_alloc ?_ _))
          · simp only [set3_size, szA, szS]; omega
        · refine ⟨k - 1, f, l, .slice ad q.length cp, q, by omega, by go_num, ?_, ?_, ?_, HB.out, ?_, ?_, ?_⟩
          · (repeat (first | (with_reducible exact Y7.out) | with_reducible refine heap_up ?_ | with_reducible refine set3_off ?_ (by omega)))
          · (repeat (first | (with_reducible exact X7.out) | with_reducible refine heap_up ?_ | with_reducible refine set3_off ?_ (by omega)))
          · (repeat (first | (with_reducible exact P7.out) | with_reducible refine set3_own ?_ (by assumption) | with_reducible refine Own.alloc ?_ _))
          · refine Rd.mono (N := N + 2 + 4 * (6 - k) + 3) ?_ (by omega)
            (repeat (first | (with_reducible exact R7.out) | with_reducible refine set3_rd ?_ (by repeat (first | (with_reducible exact Y7.out) | (with_reducible exact T7.out) | with_reducible refine heap_up ?_ | with_reducible refine set3_off ?_ (by omega))) (by omega) | with_reducible refine Rd.alloc ?_ _))
          · (repeat (first | (with_reducible exact G7.out) | with_reducible refine set3_grown ?_ (by omega) | with_reducible refine grown_alloc ?_ _))
          · simp only [set3_size, szA, szS]; omega
        · have hk2 := semB_acq hok
          refine ⟨k - 1, (acq ⟨f, l, q⟩ y z).1.free, (acq ⟨f, l, q⟩ y z).1.limit, .slice ad7 (acq ⟨f, l, q⟩ y z).1.q.length cp7, (acq ⟨f, l, q⟩ y z).1.q, by omega, by go_num, ?_, ?_, ?_, hk2, ?_, ?_, ?_⟩
          · (repeat (first | (with_reducible exact Y7.out) | with_reducible refine heap_up ?_ | (with_reducible refine set3_at (x := .int .i64 f) (y := .int .i64 l) (z := .slice ad q.length cp) ?_) | with_reducible refine set3_off ?_ (by omega)))
          · (repeat (first | (with_reducible exact X7.out) | with_reducible refine heap_up ?_ | with_reducible refine set3_off ?_ (by omega)))
          · refine Own.mono (base := w6.heap.size) ?_ S6
            (repeat (first | (with_reducible exact O7'.out) | with_reducible refine set3_own ?_ (by assumption) | with_reducible refine Own.alloc ?_ _))
          · refine Rd.mono (N := N + 2 + 4 * (6 - k) + 3) ?_ (by omega)
            (repeat (first | (with_reducible exact R7.out) | with_reducible refine set3_rd ?_ (by repeat (first | (with_reducible exact Y7.out) | (with_reducible exact T7.out) | with_reducible refine heap_up ?_ | with_reducible refine set3_off ?_ (by omega))) (by omega) | with_reducible refine Rd.alloc ?_ _))
          · (repeat (first | (with_reducible exact G7.out) | with_reducible refine set3_grown ?_ (by omega) | with_reducible refine grown_alloc ?_ _))
          · simp only [set3_size, szA, szS]; omega
        · refine ⟨k - 1, f, l, .slice ad q.length cp, q, by omega, by go_num, ?_, ?_, ?_, HB.out, ?_, ?_, ?_⟩
          · (repeat (first | (with_reducible exact Y7.out) | with_reducible refine heap_up ?_ | with_reducible refine set3_off ?_ (by omega)))
          · (repeat (first | (with_reducible exact X7.out) | with_reducible refine heap_up ?_ | with_reducible refine set3_off ?_ (by omega)))
          · (repeat (first | (with_reducible exact P7.out) | with_reducible refine set3_own ?_ (by assumption) | with_reducible refine Own.alloc ?_ _))
          · refine Rd.mono (N := N + 2 + 4 * (6 - k) + 3) ?_ (by omega)
            (repeat (first | (with_reducible exact R7.out) | with_reducible refine set3_rd ?_ (by repeat (first | (with_reducible exact Y7.out) | (with_reducible exact T7.out) | with_reducible refine heap_up ?_ | with_reducible refine set3_off ?_ (by omega))) (by omega) | with_reducible refine Rd.alloc ?_ _))
          · (repeat (first | (with_reducible exact G7.out) | with_reducible refine set3_grown ?_ (by omega) | with_reducible refine grown_alloc ?_ _))
          · simp only [set3_size, szA, szS]; omega
        · have hk2 := semB_acq hok
          refine ⟨k - 1, (acq ⟨f, l, q⟩ y z).1.free, (acq ⟨f, l, q⟩ y z).1.limit, .slice ad7 (acq ⟨f, l, q⟩ y z).1.q.length cp7, (acq ⟨f, l, q⟩ y z).1.q, by omega, by go_num, ?_, ?_, ?_, hk2, ?_, ?_, ?_⟩
          · (repeat (first | (with_reducible exact Y7.out) | with_reducible refine heap_up ?_ | (with_reducible refine set3_at (x := .int .i64 f) (y := .int .i64 l) (z := .slice ad q.length cp) ?_) | with_reducible refine set3_off ?_ (by omega)))
          · (repeat (first | (with_reducible exact X7.out) | with_reducible refine heap_up ?_ | with_reducible refine set3_off ?_ (by omega)))
          · refine Own.mono (base := w6.heap.size) ?_ S6
            (repeat (first | (with_reducible exact O7'.out) | with_reducible refine set3_own ?_ (by assumption) | with_reducible refine Own.alloc ?_ _))
          · refine Rd.mono (N := N + 2 + 4 * (6 - k) + 3) ?_ (by omega)
            (repeat (first | (with_reducible exact R7.out) | with_reducible refine set3_rd ?_ (by repeat (first | (with_reducible exact Y7.out) | (with_reducible exact T7.out) | with_reducible refine heap_up ?_ | with_reducible refine set3_off ?_ (by omega))) (by omega) | with_reducible refine Rd.alloc ?_ _))
          · (repeat (first | (with_reducible exact G7.out) | with_reducible refine set3_grown ?_ (by omega) | with_reducible refine grown_alloc ?_ _))
          · simp only [set3_size, szA, szS]; omega
    · clear f0 f1 f2
      have hk' : k = 0 := by omega
      subst hk'
      go_wp2
      refine bodyPost_ret (v := .agg #[.int .i64 f, .int .i64 l, .slice ad q.length cp]) (by simp [results, Try.results87, go_sem, d0, d1, d2, L1, L2]) rfl ⟨f, l, _, q, rfl, ?_, HB.out, ?_, ?_⟩
      · exact set3_own HO.out (HO.out.ne HX.out (by decide))
      · exact set3_rd (HR.out.mono (by omega)) HX.out (by omega)
      · exact set3_grown HG.out (Nat.le_refl _)
end Go.Proofs.Ytmmkbiljjhigfaa
