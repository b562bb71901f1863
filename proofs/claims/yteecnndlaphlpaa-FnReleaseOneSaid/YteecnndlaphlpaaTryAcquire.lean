/- Functions on semaphores: what they return (made by gen_sem.py). -/
import Derived.Test.YteecnndlaphlpaaServe
import Derived.Test.YteecnndlaphlpaaSemValidS
import Derived.Test.YteecnndlaphlpaaSemRes
import Derived.Test.YteecnndlaphlpaaBase2
namespace Go.Proofs.Yteecnndlaphlpaa
open Go.RowKit
set_option linter.unusedSimpArgs false
set_option linter.unusedVariables false
set_option maxHeartbeats 3200000
theorem TryAcquire_calls (f l c : Int) (v : Value) (q : List (Int × Int)) (w : World) (h : PRow w v q) :
    Calls Try.prog 20 #[.agg #[.int .i64 f, .int .i64 l, v], .int .i64 c] w fun e w' => ∃ qv, e = .returned (.tuple #[.agg #[.int .i64 (tryAcq ⟨f, l, q⟩ c).1.free, .int .i64 (tryAcq ⟨f, l, q⟩ c).1.limit, qv], .bool (tryAcq ⟨f, l, q⟩ c).2.1, .bool (tryAcq ⟨f, l, q⟩ c).2.2]) ∧
      Own w.heap.size 53 2 encP w' qv (tryAcq ⟨f, l, q⟩ c).1.q ∧ Below w.heap.size w w' := by
  obtain ⟨a, cp, rfl, _⟩ := id h
  have hb0 : Below w.heap.size w ((w.alloc (.cells #[.int .i64 f, .int .i64 l, .slice a q.length cp] 26)).alloc (.cells #[.int .i64 0, .int .i64 0, .slice none 0 0] 26)) := ((Below.refl _ _).alloc (Nat.le_refl _) _).alloc (by simp) _
  have HB0 := Lib.hid hb0; clear hb0
  have X0 := Lib.hid (heap_up (B := .cells #[.int .i64 0, .int .i64 0, .slice none 0 0] 26) (heap_at w (.cells #[.int .i64 f, .int .i64 l, .slice a q.length cp] 26)))
  have Y0 := Lib.hid (heap_at1 w (.cells #[.int .i64 f, .int .i64 l, .slice a q.length cp] 26) (.cells #[.int .i64 0, .int .i64 0, .slice none 0 0] 26))
  cases hv : semB ⟨f, l, q⟩
  · have hp : tryAcq ⟨f, l, q⟩ c = (SemD.zero, false, false) := by simp [tryAcq, hv]
    rw [hp]
    have HV := Lib.hid hv; clear hv hp
    go_enter Try.func20, Try.ntmps20
    go_wp2_with (first | (go_at_call 21; refine (SemValid_calls _ _ _ q _ (h.below HB0.out)).mono ?_; rintro e w1 ⟨rfl, hb⟩; rw [HV.out]; have HB1 := Lib.hid (HB0.out.trans (hb.mono HB0.out.size)); have X1 := Lib.hid (below_at hb X0.out); have Y1 := Lib.hid (below_at hb Y0.out); have Z1 := hb.size; clear hb; obtain ⟨c10, c11, c12, k10, k11, k12⟩ := box3 X1.out; obtain ⟨d10, d11, d12, g10, g11, g12⟩ := box3 Y1.out; have L1 := heap_lt Y1.out; have M1 := heap_lt X1.out))
    refine bodyPost_ret (v := .tuple #[.agg #[.int .i64 0, .int .i64 0, .slice none 0 0], .bool false, .bool false]) (by simp [results, Try.results20, go_sem, d10, d11, d12, L1, M1]) rfl ⟨_, rfl, Own.nil _ _ _ _ _, (by repeat (first | (with_reducible exact HB1.out) | (refine Below.setCell ?_ (by first | omega | (simp only [szA, szS, szD, World.heap_drewN] at * <;> omega)) _) | (refine Below.alloc ?_ (by first | omega | (simp only [szA, szS, szD, World.heap_drewN] at * <;> omega)) _) | refine Below.drew ?_))⟩
  · have hok := semB_true.1 hv
    have HQ : Hid (q.length ≤ 6) := hok.1.2.2.2.2
    have hl1 : 1 ≤ l := hok.1.1
    have hl9 : l ≤ 9 := hok.1.2.1
    have hf0 : 0 ≤ f := hok.1.2.2.1
    have hfl : f ≤ l := hok.1.2.2.2.1
    clear hok
    by_cases h1 : 1 ≤ c
    · by_cases h2 : c ≤ l
      · have e1 : decide (c < 1) = false := by simp; omega
        have e2 : decide (l < c) = false := by simp; omega
        by_cases hq : 0 < q.length
        · have hp : tryAcq ⟨f, l, q⟩ c = (⟨f, l, q⟩, false, true) := by simp [tryAcq, hv, h1, h2]; intro e; simp [e] at hq
          rw [hp]
          have HV := Lib.hid hv; clear hv hp
          have e3 := len_ne hq
          have e3' : decide ((0 : Int) < (q.length : Int)) = true := decide_eq_true (by omega)
          go_enter Try.func20, Try.ntmps20
          go_wp2_with (first | (go_at_call 21; refine (SemValid_calls _ _ _ q _ (h.below HB0.out)).mono ?_; rintro e w1 ⟨rfl, hb⟩; rw [HV.out]; have HB1 := Lib.hid (HB0.out.trans (hb.mono HB0.out.size)); have X1 := Lib.hid (below_at hb X0.out); have Y1 := Lib.hid (below_at hb Y0.out); have Z1 := hb.size; clear hb; obtain ⟨c10, c11, c12, k10, k11, k12⟩ := box3 X1.out; obtain ⟨d10, d11, d12, g10, g11, g12⟩ := box3 Y1.out; have L1 := heap_lt Y1.out; have M1 := heap_lt X1.out) | (go_at_call 45; refine (clone_calls _ _ _ q _ (h.below HB1.out) (by have := HQ.out; omega)).mono ?_; rintro e w2 ⟨qv2, rfl, ho, hb⟩; have HO2 := Lib.hid ho; clear ho; obtain ⟨ad2, cp2, rfl⟩ := HO2.out.form; have HB2 := Lib.hid (HB1.out.trans (hb.mono HB1.out.size)); have X2 := Lib.hid (below_at hb X1.out); have Y2 := Lib.hid (below_at hb Y1.out); have Z2 := hb.size; clear hb; obtain ⟨c20, c21, c22, k20, k21, k22⟩ := box3 X2.out; obtain ⟨d20, d21, d22, g20, g21, g22⟩ := box3 Y2.out; have L2 := heap_lt Y2.out; have M2 := heap_lt X2.out))
          refine bodyPost_ret (v := .tuple #[.agg #[.int .i64 (f), .int .i64 l, .slice ad2 q.length cp2], .bool false, .bool true]) (by simp [results, Try.results20, go_sem, d20, d21, d22, L2, M2]) rfl ⟨_, rfl, Own.mono (base := w1.heap.size) (by repeat (first | (with_reducible exact HO2.out) | refine Own.set ?_ (by first | omega | (simp only [szA, szS, szD, World.heap_drewN] at * <;> omega)) _ | refine Own.alloc ?_ _ | refine Own.drewN ?_ _)) (by first | omega | (simp only [szA, szS, szD, World.heap_drewN] at * <;> omega)), (by repeat (first | (with_reducible exact HB2.out) | (refine Below.setCell ?_ (by first | omega | (simp only [szA, szS, szD, World.heap_drewN] at * <;> omega)) _) | (refine Below.alloc ?_ (by first | omega | (simp only [szA, szS, szD, World.heap_drewN] at * <;> omega)) _) | refine Below.drew ?_))⟩
        · have e3 := len_eq hq
          have e3' : decide ((0 : Int) < (q.length : Int)) = false := decide_eq_false (by omega)
          have hq0 : q = [] := List.eq_nil_of_length_eq_zero (by omega)
          by_cases h3 : c ≤ f
          · have hp : tryAcq ⟨f, l, q⟩ c = (⟨f - c, l, q⟩, true, true) := by simp [tryAcq, hv, h1, h2, h3, hq0]; rw [hq0] at hv; simp [hv]
            rw [hp]
            have HV := Lib.hid hv; clear hv hp
            have HN := Lib.hid hq0; clear hq0
            have e4 : decide (c ≤ f) = true := by simp; omega
            have e4' : decide (f < c) = false := by simp; omega
            go_enter Try.func20, Try.ntmps20
            go_wp2_with (first | (go_at_call 21; refine (SemValid_calls _ _ _ q _ (h.below HB0.out)).mono ?_; rintro e w1 ⟨rfl, hb⟩; rw [HV.out]; have HB1 := Lib.hid (HB0.out.trans (hb.mono HB0.out.size)); have X1 := Lib.hid (below_at hb X0.out); have Y1 := Lib.hid (below_at hb Y0.out); have Z1 := hb.size; clear hb; obtain ⟨c10, c11, c12, k10, k11, k12⟩ := box3 X1.out; obtain ⟨d10, d11, d12, g10, g11, g12⟩ := box3 Y1.out; have L1 := heap_lt Y1.out; have M1 := heap_lt X1.out) | (go_at_call 45; refine (clone_calls _ _ _ q _ (h.below HB1.out) (by have := HQ.out; omega)).mono ?_; rintro e w2 ⟨qv2, rfl, ho, hb⟩; have HO2 := Lib.hid ho; clear ho; obtain ⟨ad2, cp2, rfl⟩ := HO2.out.form; have HB2 := Lib.hid (HB1.out.trans (hb.mono HB1.out.size)); have X2 := Lib.hid (below_at hb X1.out); have Y2 := Lib.hid (below_at hb Y1.out); have Z2 := hb.size; clear hb; obtain ⟨c20, c21, c22, k20, k21, k22⟩ := box3 X2.out; obtain ⟨d20, d21, d22, g20, g21, g22⟩ := box3 Y2.out; have L2 := heap_lt Y2.out; have M2 := heap_lt X2.out))
            refine bodyPost_ret (v := .tuple #[.agg #[.int .i64 (f - c), .int .i64 l, .slice ad2 q.length cp2], .bool true, .bool true]) (by simp [results, Try.results20, go_sem, d20, d21, d22, L2, M2]) rfl ⟨_, rfl, Own.mono (base := w1.heap.size) (by repeat (first | (with_reducible exact HO2.out) | refine Own.set ?_ (by first | omega | (simp only [szA, szS, szD, World.heap_drewN] at * <;> omega)) _ | refine Own.alloc ?_ _ | refine Own.drewN ?_ _)) (by first | omega | (simp only [szA, szS, szD, World.heap_drewN] at * <;> omega)), (by repeat (first | (with_reducible exact HB2.out) | (refine Below.setCell ?_ (by first | omega | (simp only [szA, szS, szD, World.heap_drewN] at * <;> omega)) _) | (refine Below.alloc ?_ (by first | omega | (simp only [szA, szS, szD, World.heap_drewN] at * <;> omega)) _) | refine Below.drew ?_))⟩
          · have hp : tryAcq ⟨f, l, q⟩ c = (⟨f, l, q⟩, false, true) := by simp [tryAcq, hv, h1, h2, h3]
            rw [hp]
            have HV := Lib.hid hv; clear hv hp
            have HN := Lib.hid hq0; clear hq0
            have e4 : decide (c ≤ f) = false := by simp; omega
            have e4' : decide (f < c) = true := by simp; omega
            go_enter Try.func20, Try.ntmps20
            go_wp2_with (first | (go_at_call 21; refine (SemValid_calls _ _ _ q _ (h.below HB0.out)).mono ?_; rintro e w1 ⟨rfl, hb⟩; rw [HV.out]; have HB1 := Lib.hid (HB0.out.trans (hb.mono HB0.out.size)); have X1 := Lib.hid (below_at hb X0.out); have Y1 := Lib.hid (below_at hb Y0.out); have Z1 := hb.size; clear hb; obtain ⟨c10, c11, c12, k10, k11, k12⟩ := box3 X1.out; obtain ⟨d10, d11, d12, g10, g11, g12⟩ := box3 Y1.out; have L1 := heap_lt Y1.out; have M1 := heap_lt X1.out) | (go_at_call 45; refine (clone_calls _ _ _ q _ (h.below HB1.out) (by have := HQ.out; omega)).mono ?_; rintro e w2 ⟨qv2, rfl, ho, hb⟩; have HO2 := Lib.hid ho; clear ho; obtain ⟨ad2, cp2, rfl⟩ := HO2.out.form; have HB2 := Lib.hid (HB1.out.trans (hb.mono HB1.out.size)); have X2 := Lib.hid (below_at hb X1.out); have Y2 := Lib.hid (below_at hb Y1.out); have Z2 := hb.size; clear hb; obtain ⟨c20, c21, c22, k20, k21, k22⟩ := box3 X2.out; obtain ⟨d20, d21, d22, g20, g21, g22⟩ := box3 Y2.out; have L2 := heap_lt Y2.out; have M2 := heap_lt X2.out))
            refine bodyPost_ret (v := .tuple #[.agg #[.int .i64 (f), .int .i64 l, .slice ad2 q.length cp2], .bool false, .bool true]) (by simp [results, Try.results20, go_sem, d20, d21, d22, L2, M2]) rfl ⟨_, rfl, Own.mono (base := w1.heap.size) (by repeat (first | (with_reducible exact HO2.out) | refine Own.set ?_ (by first | omega | (simp only [szA, szS, szD, World.heap_drewN] at * <;> omega)) _ | refine Own.alloc ?_ _ | refine Own.drewN ?_ _)) (by first | omega | (simp only [szA, szS, szD, World.heap_drewN] at * <;> omega)), (by repeat (first | (with_reducible exact HB2.out) | (refine Below.setCell ?_ (by first | omega | (simp only [szA, szS, szD, World.heap_drewN] at * <;> omega)) _) | (refine Below.alloc ?_ (by first | omega | (simp only [szA, szS, szD, World.heap_drewN] at * <;> omega)) _) | refine Below.drew ?_))⟩
      · have e1 : decide (c < 1) = false := by simp; omega
        have e2 : decide (l < c) = true := by simp; omega
        have hp : tryAcq ⟨f, l, q⟩ c = (SemD.zero, false, false) := by simp [tryAcq, h2]
        rw [hp]
        have HV := Lib.hid hv; clear hv hp
        go_enter Try.func20, Try.ntmps20
        go_wp2_with (first | (go_at_call 21; refine (SemValid_calls _ _ _ q _ (h.below HB0.out)).mono ?_; rintro e w1 ⟨rfl, hb⟩; rw [HV.out]; have HB1 := Lib.hid (HB0.out.trans (hb.mono HB0.out.size)); have X1 := Lib.hid (below_at hb X0.out); have Y1 := Lib.hid (below_at hb Y0.out); have Z1 := hb.size; clear hb; obtain ⟨c10, c11, c12, k10, k11, k12⟩ := box3 X1.out; obtain ⟨d10, d11, d12, g10, g11, g12⟩ := box3 Y1.out; have L1 := heap_lt Y1.out; have M1 := heap_lt X1.out))
        refine bodyPost_ret (v := .tuple #[.agg #[.int .i64 0, .int .i64 0, .slice none 0 0], .bool false, .bool false]) (by simp [results, Try.results20, go_sem, d10, d11, d12, L1, M1]) rfl ⟨_, rfl, Own.nil _ _ _ _ _, (by repeat (first | (with_reducible exact HB1.out) | (refine Below.setCell ?_ (by first | omega | (simp only [szA, szS, szD, World.heap_drewN] at * <;> omega)) _) | (refine Below.alloc ?_ (by first | omega | (simp only [szA, szS, szD, World.heap_drewN] at * <;> omega)) _) | refine Below.drew ?_))⟩
    · have e1 : decide (c < 1) = true := by simp; omega
      have hp : tryAcq ⟨f, l, q⟩ c = (SemD.zero, false, false) := by simp [tryAcq, h1]
      rw [hp]
      have HV := Lib.hid hv; clear hv hp
      go_enter Try.func20, Try.ntmps20
      go_wp2_with (first | (go_at_call 21; refine (SemValid_calls _ _ _ q _ (h.below HB0.out)).mono ?_; rintro e w1 ⟨rfl, hb⟩; rw [HV.out]; have HB1 := Lib.hid (HB0.out.trans (hb.mono HB0.out.size)); have X1 := Lib.hid (below_at hb X0.out); have Y1 := Lib.hid (below_at hb Y0.out); have Z1 := hb.size; clear hb; obtain ⟨c10, c11, c12, k10, k11, k12⟩ := box3 X1.out; obtain ⟨d10, d11, d12, g10, g11, g12⟩ := box3 Y1.out; have L1 := heap_lt Y1.out; have M1 := heap_lt X1.out))
      refine bodyPost_ret (v := .tuple #[.agg #[.int .i64 0, .int .i64 0, .slice none 0 0], .bool false, .bool false]) (by simp [results, Try.results20, go_sem, d10, d11, d12, L1, M1]) rfl ⟨_, rfl, Own.nil _ _ _ _ _, (by repeat (first | (with_reducible exact HB1.out) | (refine Below.setCell ?_ (by first | omega | (simp only [szA, szS, szD, World.heap_drewN] at * <;> omega)) _) | (refine Below.alloc ?_ (by first | omega | (simp only [szA, szS, szD, World.heap_drewN] at * <;> omega)) _) | refine Below.drew ?_))⟩

theorem sTryAcquire_calls (f l c : Int) (v : Value) (q : List (Int × Int)) (w : World) (h : PRow w v q) :
    Calls Try.prog 26 #[.agg #[.int .i64 f, .int .i64 l, v], .int .i64 c] w fun e w' => ∃ qv, e = .returned (.tuple #[.agg #[.int .i64 (tryAcq ⟨f, l, q⟩ c).1.free, .int .i64 (tryAcq ⟨f, l, q⟩ c).1.limit, qv], .bool (tryAcq ⟨f, l, q⟩ c).2.1, .bool (tryAcq ⟨f, l, q⟩ c).2.2]) ∧
      Own w.heap.size 53 2 encP w' qv (tryAcq ⟨f, l, q⟩ c).1.q ∧ Below w.heap.size w w' := by
  obtain ⟨a, cp, rfl, _⟩ := id h
  have hb0 : Below w.heap.size w ((w.alloc (.cells #[.int .i64 f, .int .i64 l, .slice a q.length cp] 26)).alloc (.cells #[.int .i64 0, .int .i64 0, .slice none 0 0] 26)) := ((Below.refl _ _).alloc (Nat.le_refl _) _).alloc (by simp) _
  have HB0 := Lib.hid hb0; clear hb0
  have X0 := Lib.hid (heap_up (B := .cells #[.int .i64 0, .int .i64 0, .slice none 0 0] 26) (heap_at w (.cells #[.int .i64 f, .int .i64 l, .slice a q.length cp] 26)))
  have Y0 := Lib.hid (heap_at1 w (.cells #[.int .i64 f, .int .i64 l, .slice a q.length cp] 26) (.cells #[.int .i64 0, .int .i64 0, .slice none 0 0] 26))
  cases hv : semB ⟨f, l, q⟩
  · have hp : tryAcq ⟨f, l, q⟩ c = (SemD.zero, false, false) := by simp [tryAcq, hv]
    rw [hp]
    have HV := Lib.hid hv; clear hv hp
    go_enter Try.func26, Try.ntmps26
    go_wp2_with (first | (go_at_call 23; refine (sSemValid_calls _ _ _ q _ (h.below HB0.out)).mono ?_; rintro e w1 ⟨rfl, hb⟩; rw [HV.out]; have HB1 := Lib.hid (HB0.out.trans (hb.mono HB0.out.size)); have X1 := Lib.hid (below_at hb X0.out); have Y1 := Lib.hid (below_at hb Y0.out); have Z1 := hb.size; clear hb; obtain ⟨c10, c11, c12, k10, k11, k12⟩ := box3 X1.out; obtain ⟨d10, d11, d12, g10, g11, g12⟩ := box3 Y1.out; have L1 := heap_lt Y1.out; have M1 := heap_lt X1.out))
    refine bodyPost_ret (v := .tuple #[.agg #[.int .i64 0, .int .i64 0, .slice none 0 0], .bool false, .bool false]) (by simp [results, Try.results26, go_sem, d10, d11, d12, L1, M1]) rfl ⟨_, rfl, Own.nil _ _ _ _ _, (by repeat (first | (with_reducible exact HB1.out) | (refine Below.setCell ?_ (by first | omega | (simp only [szA, szS, szD, World.heap_drewN] at * <;> omega)) _) | (refine Below.alloc ?_ (by first | omega | (simp only [szA, szS, szD, World.heap_drewN] at * <;> omega)) _) | refine Below.drew ?_))⟩
  · have hok := semB_true.1 hv
    have HQ : Hid (q.length ≤ 6) := hok.1.2.2.2.2
    have hl1 : 1 ≤ l := hok.1.1
    have hl9 : l ≤ 9 := hok.1.2.1
    have hf0 : 0 ≤ f := hok.1.2.2.1
    have hfl : f ≤ l := hok.1.2.2.2.1
    clear hok
    by_cases h1 : 1 ≤ c
    · by_cases h2 : c ≤ l
      · have e1 : decide (c < 1) = false := by simp; omega
        have e2 : decide (l < c) = false := by simp; omega
        by_cases hq : 0 < q.length
        · have hp : tryAcq ⟨f, l, q⟩ c = (⟨f, l, q⟩, false, true) := by simp [tryAcq, hv, h1, h2]; intro e; simp [e] at hq
          rw [hp]
          have HV := Lib.hid hv; clear hv hp
          have e3 := len_ne hq
          have e3' : decide ((0 : Int) < (q.length : Int)) = true := decide_eq_true (by omega)
          go_enter Try.func26, Try.ntmps26
          go_wp2_with (first | (go_at_call 23; refine (sSemValid_calls _ _ _ q _ (h.below HB0.out)).mono ?_; rintro e w1 ⟨rfl, hb⟩; rw [HV.out]; have HB1 := Lib.hid (HB0.out.trans (hb.mono HB0.out.size)); have X1 := Lib.hid (below_at hb X0.out); have Y1 := Lib.hid (below_at hb Y0.out); have Z1 := hb.size; clear hb; obtain ⟨c10, c11, c12, k10, k11, k12⟩ := box3 X1.out; obtain ⟨d10, d11, d12, g10, g11, g12⟩ := box3 Y1.out; have L1 := heap_lt Y1.out; have M1 := heap_lt X1.out) | (go_at_call 52; refine (l1Copy_calls _ _ _ q _ (h.below HB1.out) (by have := HQ.out; omega)).mono ?_; rintro e w2 ⟨qv2, rfl, ho, hb⟩; have HO2 := Lib.hid ho; clear ho; obtain ⟨ad2, cp2, rfl⟩ := HO2.out.form; have HB2 := Lib.hid (HB1.out.trans (hb.mono HB1.out.size)); have X2 := Lib.hid (below_at hb X1.out); have Y2 := Lib.hid (below_at hb Y1.out); have Z2 := hb.size; clear hb; obtain ⟨c20, c21, c22, k20, k21, k22⟩ := box3 X2.out; obtain ⟨d20, d21, d22, g20, g21, g22⟩ := box3 Y2.out; have L2 := heap_lt Y2.out; have M2 := heap_lt X2.out))
          refine bodyPost_ret (v := .tuple #[.agg #[.int .i64 (f), .int .i64 l, .slice ad2 q.length cp2], .bool false, .bool true]) (by simp [results, Try.results26, go_sem, d20, d21, d22, L2, M2]) rfl ⟨_, rfl, Own.mono (base := w1.heap.size) (by repeat (first | (with_reducible exact HO2.out) | refine Own.set ?_ (by first | omega | (simp only [szA, szS, szD, World.heap_drewN] at * <;> omega)) _ | refine Own.alloc ?_ _ | refine Own.drewN ?_ _)) (by first | omega | (simp only [szA, szS, szD, World.heap_drewN] at * <;> omega)), (by repeat (first | (with_reducible exact HB2.out) | (refine Below.setCell ?_ (by first | omega | (simp only [szA, szS, szD, World.heap_drewN] at * <;> omega)) _) | (refine Below.alloc ?_ (by first | omega | (simp only [szA, szS, szD, World.heap_drewN] at * <;> omega)) _) | refine Below.drew ?_))⟩
        · have e3 := len_eq hq
          have e3' : decide ((0 : Int) < (q.length : Int)) = false := decide_eq_false (by omega)
          have hq0 : q = [] := List.eq_nil_of_length_eq_zero (by omega)
          by_cases h3 : c ≤ f
          · have hp : tryAcq ⟨f, l, q⟩ c = (⟨f - c, l, q⟩, true, true) := by simp [tryAcq, hv, h1, h2, h3, hq0]; rw [hq0] at hv; simp [hv]
            rw [hp]
            have HV := Lib.hid hv; clear hv hp
            have HN := Lib.hid hq0; clear hq0
            have e4 : decide (c ≤ f) = true := by simp; omega
            have e4' : decide (f < c) = false := by simp; omega
            go_enter Try.func26, Try.ntmps26
            go_wp2_with (first | (go_at_call 23; refine (sSemValid_calls _ _ _ q _ (h.below HB0.out)).mono ?_; rintro e w1 ⟨rfl, hb⟩; rw [HV.out]; have HB1 := Lib.hid (HB0.out.trans (hb.mono HB0.out.size)); have X1 := Lib.hid (below_at hb X0.out); have Y1 := Lib.hid (below_at hb Y0.out); have Z1 := hb.size; clear hb; obtain ⟨c10, c11, c12, k10, k11, k12⟩ := box3 X1.out; obtain ⟨d10, d11, d12, g10, g11, g12⟩ := box3 Y1.out; have L1 := heap_lt Y1.out; have M1 := heap_lt X1.out) | (go_at_call 52; refine (l1Copy_calls _ _ _ q _ (h.below HB1.out) (by have := HQ.out; omega)).mono ?_; rintro e w2 ⟨qv2, rfl, ho, hb⟩; have HO2 := Lib.hid ho; clear ho; obtain ⟨ad2, cp2, rfl⟩ := HO2.out.form; have HB2 := Lib.hid (HB1.out.trans (hb.mono HB1.out.size)); have X2 := Lib.hid (below_at hb X1.out); have Y2 := Lib.hid (below_at hb Y1.out); have Z2 := hb.size; clear hb; obtain ⟨c20, c21, c22, k20, k21, k22⟩ := box3 X2.out; obtain ⟨d20, d21, d22, g20, g21, g22⟩ := box3 Y2.out; have L2 := heap_lt Y2.out; have M2 := heap_lt X2.out))
            refine bodyPost_ret (v := .tuple #[.agg #[.int .i64 (f - c), .int .i64 l, .slice ad2 q.length cp2], .bool true, .bool true]) (by simp [results, Try.results26, go_sem, d20, d21, d22, L2, M2]) rfl ⟨_, rfl, Own.mono (base := w1.heap.size) (by repeat (first | (with_reducible exact HO2.out) | refine Own.set ?_ (by first | omega | (simp only [szA, szS, szD, World.heap_drewN] at * <;> omega)) _ | refine Own.alloc ?_ _ | refine Own.drewN ?_ _)) (by first | omega | (simp only [szA, szS, szD, World.heap_drewN] at * <;> omega)), (by repeat (first | (with_reducible exact HB2.out) | (refine Below.setCell ?_ (by first | omega | (simp only [szA, szS, szD, World.heap_drewN] at * <;> omega)) _) | (refine Below.alloc ?_ (by first | omega | (simp only [szA, szS, szD, World.heap_drewN] at * <;> omega)) _) | refine Below.drew ?_))⟩
          · have hp : tryAcq ⟨f, l, q⟩ c = (⟨f, l, q⟩, false, true) := by simp [tryAcq, hv, h1, h2, h3]
            rw [hp]
            have HV := Lib.hid hv; clear hv hp
            have HN := Lib.hid hq0; clear hq0
            have e4 : decide (c ≤ f) = false := by simp; omega
            have e4' : decide (f < c) = true := by simp; omega
            go_enter Try.func26, Try.ntmps26
            go_wp2_with (first | (go_at_call 23; refine (sSemValid_calls _ _ _ q _ (h.below HB0.out)).mono ?_; rintro e w1 ⟨rfl, hb⟩; rw [HV.out]; have HB1 := Lib.hid (HB0.out.trans (hb.mono HB0.out.size)); have X1 := Lib.hid (below_at hb X0.out); have Y1 := Lib.hid (below_at hb Y0.out); have Z1 := hb.size; clear hb; obtain ⟨c10, c11, c12, k10, k11, k12⟩ := box3 X1.out; obtain ⟨d10, d11, d12, g10, g11, g12⟩ := box3 Y1.out; have L1 := heap_lt Y1.out; have M1 := heap_lt X1.out) | (go_at_call 52; refine (l1Copy_calls _ _ _ q _ (h.below HB1.out) (by have := HQ.out; omega)).mono ?_; rintro e w2 ⟨qv2, rfl, ho, hb⟩; have HO2 := Lib.hid ho; clear ho; obtain ⟨ad2, cp2, rfl⟩ := HO2.out.form; have HB2 := Lib.hid (HB1.out.trans (hb.mono HB1.out.size)); have X2 := Lib.hid (below_at hb X1.out); have Y2 := Lib.hid (below_at hb Y1.out); have Z2 := hb.size; clear hb; obtain ⟨c20, c21, c22, k20, k21, k22⟩ := box3 X2.out; obtain ⟨d20, d21, d22, g20, g21, g22⟩ := box3 Y2.out; have L2 := heap_lt Y2.out; have M2 := heap_lt X2.out))
            refine bodyPost_ret (v := .tuple #[.agg #[.int .i64 (f), .int .i64 l, .slice ad2 q.length cp2], .bool false, .bool true]) (by simp [results, Try.results26, go_sem, d20, d21, d22, L2, M2]) rfl ⟨_, rfl, Own.mono (base := w1.heap.size) (by repeat (first | (with_reducible exact HO2.out) | refine Own.set ?_ (by first | omega | (simp only [szA, szS, szD, World.heap_drewN] at * <;> omega)) _ | refine Own.alloc ?_ _ | refine Own.drewN ?_ _)) (by first | omega | (simp only [szA, szS, szD, World.heap_drewN] at * <;> omega)), (by repeat (first | (with_reducible exact HB2.out) | (refine Below.setCell ?_ (by first | omega | (simp only [szA, szS, szD, World.heap_drewN] at * <;> omega)) _) | (refine Below.alloc ?_ (by first | omega | (simp only [szA, szS, szD, World.heap_drewN] at * <;> omega)) _) | refine Below.drew ?_))⟩
      · have e1 : decide (c < 1) = false := by simp; omega
        have e2 : decide (l < c) = true := by simp; omega
        have hp : tryAcq ⟨f, l, q⟩ c = (SemD.zero, false, false) := by simp [tryAcq, h2]
        rw [hp]
        have HV := Lib.hid hv; clear hv hp
        go_enter Try.func26, Try.ntmps26
        go_wp2_with (first | (go_at_call 23; refine (sSemValid_calls _ _ _ q _ (h.below HB0.out)).mono ?_; rintro e w1 ⟨rfl, hb⟩; rw [HV.out]; have HB1 := Lib.hid (HB0.out.trans (hb.mono HB0.out.size)); have X1 := Lib.hid (below_at hb X0.out); have Y1 := Lib.hid (below_at hb Y0.out); have Z1 := hb.size; clear hb; obtain ⟨c10, c11, c12, k10, k11, k12⟩ := box3 X1.out; obtain ⟨d10, d11, d12, g10, g11, g12⟩ := box3 Y1.out; have L1 := heap_lt Y1.out; have M1 := heap_lt X1.out))
        refine bodyPost_ret (v := .tuple #[.agg #[.int .i64 0, .int .i64 0, .slice none 0 0], .bool false, .bool false]) (by simp [results, Try.results26, go_sem, d10, d11, d12, L1, M1]) rfl ⟨_, rfl, Own.nil _ _ _ _ _, (by repeat (first | (with_reducible exact HB1.out) | (refine Below.setCell ?_ (by first | omega | (simp only [szA, szS, szD, World.heap_drewN] at * <;> omega)) _) | (refine Below.alloc ?_ (by first | omega | (simp only [szA, szS, szD, World.heap_drewN] at * <;> omega)) _) | refine Below.drew ?_))⟩
    · have e1 : decide (c < 1) = true := by simp; omega
      have hp : tryAcq ⟨f, l, q⟩ c = (SemD.zero, false, false) := by simp [tryAcq, h1]
      rw [hp]
      have HV := Lib.hid hv; clear hv hp
      go_enter Try.func26, Try.ntmps26
      go_wp2_with (first | (go_at_call 23; refine (sSemValid_calls _ _ _ q _ (h.below HB0.out)).mono ?_; rintro e w1 ⟨rfl, hb⟩; rw [HV.out]; have HB1 := Lib.hid (HB0.out.trans (hb.mono HB0.out.size)); have X1 := Lib.hid (below_at hb X0.out); have Y1 := Lib.hid (below_at hb Y0.out); have Z1 := hb.size; clear hb; obtain ⟨c10, c11, c12, k10, k11, k12⟩ := box3 X1.out; obtain ⟨d10, d11, d12, g10, g11, g12⟩ := box3 Y1.out; have L1 := heap_lt Y1.out; have M1 := heap_lt X1.out))
      refine bodyPost_ret (v := .tuple #[.agg #[.int .i64 0, .int .i64 0, .slice none 0 0], .bool false, .bool false]) (by simp [results, Try.results26, go_sem, d10, d11, d12, L1, M1]) rfl ⟨_, rfl, Own.nil _ _ _ _ _, (by repeat (first | (with_reducible exact HB1.out) | (refine Below.setCell ?_ (by first | omega | (simp only [szA, szS, szD, World.heap_drewN] at * <;> omega)) _) | (refine Below.alloc ?_ (by first | omega | (simp only [szA, szS, szD, World.heap_drewN] at * <;> omega)) _) | refine Below.drew ?_))⟩
end Go.Proofs.Yteecnndlaphlpaa
