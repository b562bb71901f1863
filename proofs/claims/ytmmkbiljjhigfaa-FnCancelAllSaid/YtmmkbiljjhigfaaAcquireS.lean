/- Functions on semaphores: what they return (made by gen_sem.py). -/
import Derived.Test.YtmmkbiljjhigfaaServe
import Derived.Test.YtmmkbiljjhigfaaSemValidS
import Derived.Test.YtmmkbiljjhigfaaSemRes
import Derived.Test.YtmmkbiljjhigfaaBase2
namespace Go.Proofs.Ytmmkbiljjhigfaa
open Go.RowKit
set_option linter.unusedSimpArgs false
set_option linter.unusedVariables false
set_option maxHeartbeats 3200000
theorem sAcquire_calls (f l t c : Int) (v : Value) (q : List (Int × Int)) (w : World) (h : PRow w v q) :
    Calls Try.prog 34 #[.agg #[.int .i64 f, .int .i64 l, v], .int .i64 t, .int .i64 c] w fun e w' => ∃ qv, e = .returned (.tuple #[.agg #[.int .i64 (acq ⟨f, l, q⟩ t c).1.free, .int .i64 (acq ⟨f, l, q⟩ t c).1.limit, qv], .bool (acq ⟨f, l, q⟩ t c).2.1, .bool (acq ⟨f, l, q⟩ t c).2.2]) ∧
      Own w.heap.size 62 2 encP w' qv (acq ⟨f, l, q⟩ t c).1.q ∧ Below w.heap.size w w' := by
  obtain ⟨a, cp, rfl, _⟩ := id h
  have hb0 : Below w.heap.size w ((w.alloc (.cells #[.int .i64 f, .int .i64 l, .slice a q.length cp] 48)).alloc (.cells #[.int .i64 0, .int .i64 0, .slice none 0 0] 48)) := ((Below.refl _ _).alloc (Nat.le_refl _) _).alloc (by simp) _
  have HB0 := Lib.hid hb0; clear hb0
  have X0 := Lib.hid (heap_up (B := .cells #[.int .i64 0, .int .i64 0, .slice none 0 0] 48) (heap_at w (.cells #[.int .i64 f, .int .i64 l, .slice a q.length cp] 48)))
  have Y0 := Lib.hid (heap_at1 w (.cells #[.int .i64 f, .int .i64 l, .slice a q.length cp] 48) (.cells #[.int .i64 0, .int .i64 0, .slice none 0 0] 48))
  cases hv : semB ⟨f, l, q⟩
  · have hp : acq ⟨f, l, q⟩ t c = (SemD.zero, false, false) := by simp [acq, hv]
    rw [hp]
    have HV := Lib.hid hv; clear hv hp
    go_enter Try.func34, Try.ntmps34
    go_wp2_with (first | (go_at_call 73; refine (sSemValid_calls _ _ _ q _ (h.below HB0.out)).mono ?_; rintro e w1 ⟨rfl, hb⟩; rw [HV.out]; have HB1 := Lib.hid (HB0.out.trans (hb.mono HB0.out.size)); have X1 := Lib.hid (below_at hb X0.out); have Y1 := Lib.hid (below_at hb Y0.out); have Z1 := hb.size; clear hb; obtain ⟨c10, c11, c12, k10, k11, k12⟩ := box3 X1.out; obtain ⟨d10, d11, d12, g10, g11, g12⟩ := box3 Y1.out; have L1 := heap_lt Y1.out; have M1 := heap_lt X1.out))
    refine bodyPost_ret (v := .tuple #[.agg #[.int .i64 0, .int .i64 0, .slice none 0 0], .bool false, .bool false]) (by simp [results, Try.results34, go_sem, d10, d11, d12, L1, M1]) rfl ⟨_, rfl, Own.nil _ _ _ _ _, (by repeat (first | (with_reducible exact HB1.out) | (refine Below.setCell ?_ (by first | omega | (simp only [szA, szS, szD, World.heap_drewN] at * <;> omega)) _) | (refine Below.alloc ?_ (by first | omega | (simp only [szA, szS, szD, World.heap_drewN] at * <;> omega)) _) | refine Below.drew ?_))⟩
  · have hok := semB_true.1 hv
    have HQ : Hid (q.length ≤ 6) := hok.1.2.2.2.2
    have hl1 : 1 ≤ l := hok.1.1
    have hl9 : l ≤ 9 := hok.1.2.1
    have hf0 : 0 ≤ f := hok.1.2.2.1
    have hfl : f ≤ l := hok.1.2.2.2.1
    clear hok
    cases ht : thrB t
    · have HT := Lib.hid ht
      have hp : acq ⟨f, l, q⟩ t c = (SemD.zero, false, false) := by simp [acq, ht]
      rw [hp]
      have HV := Lib.hid hv; clear hv hp
      clear ht
      go_enter Try.func34, Try.ntmps34
      go_wp2_with (first | (go_at_call 73; refine (sSemValid_calls _ _ _ q _ (h.below HB0.out)).mono ?_; rintro e w1 ⟨rfl, hb⟩; rw [HV.out]; have HB1 := Lib.hid (HB0.out.trans (hb.mono HB0.out.size)); have X1 := Lib.hid (below_at hb X0.out); have Y1 := Lib.hid (below_at hb Y0.out); have Z1 := hb.size; clear hb; obtain ⟨c10, c11, c12, k10, k11, k12⟩ := box3 X1.out; obtain ⟨d10, d11, d12, g10, g11, g12⟩ := box3 Y1.out; have L1 := heap_lt Y1.out; have M1 := heap_lt X1.out) | (go_at_call 58; refine (l1Thread_calls _ _).mono ?_; rintro e w' ⟨rfl, rfl⟩; rw [HT.out]))
      refine bodyPost_ret (v := .tuple #[.agg #[.int .i64 0, .int .i64 0, .slice none 0 0], .bool false, .bool false]) (by simp [results, Try.results34, go_sem, d10, d11, d12, L1, M1]) rfl ⟨_, rfl, Own.nil _ _ _ _ _, (by repeat (first | (with_reducible exact HB1.out) | (refine Below.setCell ?_ (by first | omega | (simp only [szA, szS, szD, World.heap_drewN] at * <;> omega)) _) | (refine Below.alloc ?_ (by first | omega | (simp only [szA, szS, szD, World.heap_drewN] at * <;> omega)) _) | refine Below.drew ?_))⟩
    · have HT := Lib.hid ht
      by_cases hin : t ∈ q.map (·.1)
      · by_cases h1 : 1 ≤ c
        · by_cases h2 : c ≤ l
          · have e1 : decide (c < 1) = false := by simp; omega
            have e2 : decide (l < c) = false := by simp; omega
            have hp : acq ⟨f, l, q⟩ t c = (SemD.zero, false, false) := by simp only [acq]; rw [if_neg (fun e => e.2.2.1 hin)]
            rw [hp]
            have HV := Lib.hid hv; clear hv hp
            have e5 : decide (0 ≤ findW t q) = true := decide_eq_true (by have := mt findW_neg.1 (not_not_intro hin); omega)
            clear ht hin
            go_enter Try.func34, Try.ntmps34
            go_wp2_with (first | (go_at_call 73; refine (sSemValid_calls _ _ _ q _ (h.below HB0.out)).mono ?_; rintro e w1 ⟨rfl, hb⟩; rw [HV.out]; have HB1 := Lib.hid (HB0.out.trans (hb.mono HB0.out.size)); have X1 := Lib.hid (below_at hb X0.out); have Y1 := Lib.hid (below_at hb Y0.out); have Z1 := hb.size; clear hb; obtain ⟨c10, c11, c12, k10, k11, k12⟩ := box3 X1.out; obtain ⟨d10, d11, d12, g10, g11, g12⟩ := box3 Y1.out; have L1 := heap_lt Y1.out; have M1 := heap_lt X1.out) | (go_at_call 58; refine (l1Thread_calls _ _).mono ?_; rintro e w' ⟨rfl, rfl⟩; rw [HT.out]) | (go_at_call 74; refine (l1Find_calls _ q _ _ (h.below HB1.out)).mono ?_; rintro e w2 ⟨rfl, hb⟩; have HB2 := Lib.hid (HB1.out.trans (hb.mono HB1.out.size)); have X2 := Lib.hid (below_at hb X1.out); have Y2 := Lib.hid (below_at hb Y1.out); have Z2 := hb.size; clear hb; obtain ⟨c20, c21, c22, k20, k21, k22⟩ := box3 X2.out; obtain ⟨d20, d21, d22, g20, g21, g22⟩ := box3 Y2.out; have L2 := heap_lt Y2.out; have M2 := heap_lt X2.out))
            refine bodyPost_ret (v := .tuple #[.agg #[.int .i64 0, .int .i64 0, .slice none 0 0], .bool false, .bool false]) (by simp [results, Try.results34, go_sem, d20, d21, d22, L2, M2]) rfl ⟨_, rfl, Own.nil _ _ _ _ _, (by repeat (first | (with_reducible exact HB2.out) | (refine Below.setCell ?_ (by first | omega | (simp only [szA, szS, szD, World.heap_drewN] at * <;> omega)) _) | (refine Below.alloc ?_ (by first | omega | (simp only [szA, szS, szD, World.heap_drewN] at * <;> omega)) _) | refine Below.drew ?_))⟩
          · have e1 : decide (c < 1) = false := by simp; omega
            have e2 : decide (l < c) = true := by simp; omega
            have hp : acq ⟨f, l, q⟩ t c = (SemD.zero, false, false) := by simp [acq, h2]
            rw [hp]
            have HV := Lib.hid hv; clear hv hp
            clear ht hin
            go_enter Try.func34, Try.ntmps34
            go_wp2_with (first | (go_at_call 73; refine (sSemValid_calls _ _ _ q _ (h.below HB0.out)).mono ?_; rintro e w1 ⟨rfl, hb⟩; rw [HV.out]; have HB1 := Lib.hid (HB0.out.trans (hb.mono HB0.out.size)); have X1 := Lib.hid (below_at hb X0.out); have Y1 := Lib.hid (below_at hb Y0.out); have Z1 := hb.size; clear hb; obtain ⟨c10, c11, c12, k10, k11, k12⟩ := box3 X1.out; obtain ⟨d10, d11, d12, g10, g11, g12⟩ := box3 Y1.out; have L1 := heap_lt Y1.out; have M1 := heap_lt X1.out) | (go_at_call 58; refine (l1Thread_calls _ _).mono ?_; rintro e w' ⟨rfl, rfl⟩; rw [HT.out]))
            refine bodyPost_ret (v := .tuple #[.agg #[.int .i64 0, .int .i64 0, .slice none 0 0], .bool false, .bool false]) (by simp [results, Try.results34, go_sem, d10, d11, d12, L1, M1]) rfl ⟨_, rfl, Own.nil _ _ _ _ _, (by repeat (first | (with_reducible exact HB1.out) | (refine Below.setCell ?_ (by first | omega | (simp only [szA, szS, szD, World.heap_drewN] at * <;> omega)) _) | (refine Below.alloc ?_ (by first | omega | (simp only [szA, szS, szD, World.heap_drewN] at * <;> omega)) _) | refine Below.drew ?_))⟩
        · have e1 : decide (c < 1) = true := by simp; omega
          have hp : acq ⟨f, l, q⟩ t c = (SemD.zero, false, false) := by simp [acq, h1]
          rw [hp]
          have HV := Lib.hid hv; clear hv hp
          clear ht hin
          go_enter Try.func34, Try.ntmps34
          go_wp2_with (first | (go_at_call 73; refine (sSemValid_calls _ _ _ q _ (h.below HB0.out)).mono ?_; rintro e w1 ⟨rfl, hb⟩; rw [HV.out]; have HB1 := Lib.hid (HB0.out.trans (hb.mono HB0.out.size)); have X1 := Lib.hid (below_at hb X0.out); have Y1 := Lib.hid (below_at hb Y0.out); have Z1 := hb.size; clear hb; obtain ⟨c10, c11, c12, k10, k11, k12⟩ := box3 X1.out; obtain ⟨d10, d11, d12, g10, g11, g12⟩ := box3 Y1.out; have L1 := heap_lt Y1.out; have M1 := heap_lt X1.out) | (go_at_call 58; refine (l1Thread_calls _ _).mono ?_; rintro e w' ⟨rfl, rfl⟩; rw [HT.out]))
          refine bodyPost_ret (v := .tuple #[.agg #[.int .i64 0, .int .i64 0, .slice none 0 0], .bool false, .bool false]) (by simp [results, Try.results34, go_sem, d10, d11, d12, L1, M1]) rfl ⟨_, rfl, Own.nil _ _ _ _ _, (by repeat (first | (with_reducible exact HB1.out) | (refine Below.setCell ?_ (by first | omega | (simp only [szA, szS, szD, World.heap_drewN] at * <;> omega)) _) | (refine Below.alloc ?_ (by first | omega | (simp only [szA, szS, szD, World.heap_drewN] at * <;> omega)) _) | refine Below.drew ?_))⟩
      · have e5 : decide (0 ≤ findW t q) = false := decide_eq_false (by have := findW_neg.2 hin; omega)
        by_cases h1 : 1 ≤ c
        · by_cases h2 : c ≤ l
          · have e1 : decide (c < 1) = false := by simp; omega
            have e2 : decide (l < c) = false := by simp; omega
            by_cases hq : 0 < q.length
            · have hp : acq ⟨f, l, q⟩ t c = (⟨f, l, q ++ [(t, c)]⟩, false, true) := by simp only [acq]; rw [if_pos ⟨hv, ht, hin, h1, h2⟩, if_neg (fun e => by omega)]
              rw [hp]
              have HV := Lib.hid hv; clear hv hp ht hin
              have e3 := len_ne hq
              go_enter Try.func34, Try.ntmps34
              go_wp2_with (first | (go_at_call 73; refine (sSemValid_calls _ _ _ q _ (h.below HB0.out)).mono ?_; rintro e w1 ⟨rfl, hb⟩; rw [HV.out]; have HB1 := Lib.hid (HB0.out.trans (hb.mono HB0.out.size)); have X1 := Lib.hid (below_at hb X0.out); have Y1 := Lib.hid (below_at hb Y0.out); have Z1 := hb.size; clear hb; obtain ⟨c10, c11, c12, k10, k11, k12⟩ := box3 X1.out; obtain ⟨d10, d11, d12, g10, g11, g12⟩ := box3 Y1.out; have L1 := heap_lt Y1.out; have M1 := heap_lt X1.out) | (go_at_call 58; refine (l1Thread_calls _ _).mono ?_; rintro e w' ⟨rfl, rfl⟩; rw [HT.out]) | (go_at_call 74; refine (l1Find_calls _ q _ _ (h.below HB1.out)).mono ?_; rintro e w2 ⟨rfl, hb⟩; have HB2 := Lib.hid (HB1.out.trans (hb.mono HB1.out.size)); have X2 := Lib.hid (below_at hb X1.out); have Y2 := Lib.hid (below_at hb Y1.out); have Z2 := hb.size; clear hb; obtain ⟨c20, c21, c22, k20, k21, k22⟩ := box3 X2.out; obtain ⟨d20, d21, d22, g20, g21, g22⟩ := box3 Y2.out; have L2 := heap_lt Y2.out; have M2 := heap_lt X2.out) | (go_at_call 75; refine (l1Copy_calls _ _ _ q _ (h.below HB2.out) (by have := HQ.out; omega)).mono ?_; rintro e w3 ⟨qv3, rfl, ho, hb⟩; have HO3 := Lib.hid ho; clear ho; obtain ⟨ad3, cp3, rfl⟩ := HO3.out.form; have HB3 := Lib.hid (HB2.out.trans (hb.mono HB2.out.size)); have X3 := Lib.hid (below_at hb X2.out); have Y3 := Lib.hid (below_at hb Y2.out); have Z3 := hb.size; clear hb; obtain ⟨c30, c31, c32, k30, k31, k32⟩ := box3 X3.out; obtain ⟨d30, d31, d32, g30, g31, g32⟩ := box3 Y3.out; have L3 := heap_lt Y3.out; have M3 := heap_lt X3.out) | (at_builtin; refine wpList_snoc _ encP_len one_pair rfl _ _ 46 rfl 62 _ 16 Try.underlying46 info_W rfl (by decide) w2.heap.size (.slice ad3 q.length cp3) q rfl (by repeat (first | (with_reducible exact HO3.out) | refine Own.set ?_ (by first | omega | (simp only [szA, szS, szD, World.heap_drewN] at * <;> omega)) _ | refine Own.alloc ?_ _ | refine Own.drewN ?_ _)) (t, c) _ rfl _ rfl (by first | omega | (simp only [szA, szS, szD, World.heap_drewN] at * <;> omega)) (by decide) (by have := HQ.out; omega) (by first | omega | (simp only [szA, szS, szD, World.heap_drewN] at * <;> omega)) ?_; intro ad4 cp4 w4 hown hgr hat; have HO4 := Lib.hid hown; have HG4 := Lib.hid hgr; clear hown hgr hat; have T4 := Lib.hid (push_at2 (heap_at w3 _) HG4.out (HO3.out.not_new (Nat.le_refl _))); have Y4 := Lib.hid (push_at (heap_up Y3.out) HG4.out HO3.out.blk (by first | omega | (simp only [szA, szS, szD, World.heap_drewN] at * <;> omega))); have HB4 := Lib.hid (push_below (B := w.heap.size) (HB3.out.alloc (by first | omega | (simp only [szA, szS, szD, World.heap_drewN] at * <;> omega)) _) HG4.out HO3.out.blk (by first | omega | (simp only [szA, szS, szD, World.heap_drewN] at * <;> omega)) (by first | omega | (simp only [szA, szS, szD, World.heap_drewN] at * <;> omega))); have Z4 := HG4.out.size; obtain ⟨c40, c41, c42, k40, k41, k42⟩ := box3 T4.out; obtain ⟨d40, d41, d42, g40, g41, g42⟩ := box3 Y4.out; have L4 := heap_lt Y4.out; have M4 := heap_lt T4.out; have N4 := HO4.out.ne T4.out (by decide)))
              refine bodyPost_ret (v := .tuple #[.agg #[.int .i64 f, .int .i64 l, .slice ad4 (q.length + 1) cp4], .bool false, .bool true]) (by simp [results, Try.results34, go_sem, d40, d41, d42, L4, M4]) rfl ⟨_, rfl, ?_, ?_⟩
              · exact Own.mono (base := w2.heap.size) (Own.set (Own.set (Own.set (HO4.out.set_off N4 _) (by first | omega | (simp only [szA, szS, szD, World.heap_drewN] at * <;> omega)) _) (by first | omega | (simp only [szA, szS, szD, World.heap_drewN] at * <;> omega)) _) (by first | omega | (simp only [szA, szS, szD, World.heap_drewN] at * <;> omega)) _) (by first | omega | (simp only [szA, szS, szD, World.heap_drewN] at * <;> omega))
              · exact (by repeat (first | (with_reducible exact HB4.out) | (refine Below.setCell ?_ (by first | omega | (simp only [szA, szS, szD, World.heap_drewN] at * <;> omega)) _) | (refine Below.alloc ?_ (by first | omega | (simp only [szA, szS, szD, World.heap_drewN] at * <;> omega)) _) | refine Below.drew ?_))
            · have e3 := len_eq hq
              by_cases h3 : c ≤ f
              · have hp : acq ⟨f, l, q⟩ t c = (⟨f - c, l, q⟩, true, true) := by simp only [acq]; rw [if_pos ⟨hv, ht, hin, h1, h2⟩, if_pos ⟨by omega, h3⟩]
                rw [hp]
                have HV := Lib.hid hv; clear hv hp ht hin
                have e4 : decide (c ≤ f) = true := by simp; omega
                go_enter Try.func34, Try.ntmps34
                go_wp2_with (first | (go_at_call 73; refine (sSemValid_calls _ _ _ q _ (h.below HB0.out)).mono ?_; rintro e w1 ⟨rfl, hb⟩; rw [HV.out]; have HB1 := Lib.hid (HB0.out.trans (hb.mono HB0.out.size)); have X1 := Lib.hid (below_at hb X0.out); have Y1 := Lib.hid (below_at hb Y0.out); have Z1 := hb.size; clear hb; obtain ⟨c10, c11, c12, k10, k11, k12⟩ := box3 X1.out; obtain ⟨d10, d11, d12, g10, g11, g12⟩ := box3 Y1.out; have L1 := heap_lt Y1.out; have M1 := heap_lt X1.out) | (go_at_call 58; refine (l1Thread_calls _ _).mono ?_; rintro e w' ⟨rfl, rfl⟩; rw [HT.out]) | (go_at_call 74; refine (l1Find_calls _ q _ _ (h.below HB1.out)).mono ?_; rintro e w2 ⟨rfl, hb⟩; have HB2 := Lib.hid (HB1.out.trans (hb.mono HB1.out.size)); have X2 := Lib.hid (below_at hb X1.out); have Y2 := Lib.hid (below_at hb Y1.out); have Z2 := hb.size; clear hb; obtain ⟨c20, c21, c22, k20, k21, k22⟩ := box3 X2.out; obtain ⟨d20, d21, d22, g20, g21, g22⟩ := box3 Y2.out; have L2 := heap_lt Y2.out; have M2 := heap_lt X2.out) | (go_at_call 75; refine (l1Copy_calls _ _ _ q _ (h.below HB2.out) (by have := HQ.out; omega)).mono ?_; rintro e w3 ⟨qv3, rfl, ho, hb⟩; have HO3 := Lib.hid ho; clear ho; obtain ⟨ad3, cp3, rfl⟩ := HO3.out.form; have HB3 := Lib.hid (HB2.out.trans (hb.mono HB2.out.size)); have X3 := Lib.hid (below_at hb X2.out); have Y3 := Lib.hid (below_at hb Y2.out); have Z3 := hb.size; clear hb; obtain ⟨c30, c31, c32, k30, k31, k32⟩ := box3 X3.out; obtain ⟨d30, d31, d32, g30, g31, g32⟩ := box3 Y3.out; have L3 := heap_lt Y3.out; have M3 := heap_lt X3.out))
                refine bodyPost_ret (v := .tuple #[.agg #[.int .i64 (f - c), .int .i64 l, .slice ad3 q.length cp3], .bool true, .bool true]) (by simp [results, Try.results34, go_sem, d30, d31, d32, L3, M3]) rfl ⟨_, rfl, Own.mono (base := w2.heap.size) (by repeat (first | (with_reducible exact HO3.out) | refine Own.set ?_ (by first | omega | (simp only [szA, szS, szD, World.heap_drewN] at * <;> omega)) _ | refine Own.alloc ?_ _ | refine Own.drewN ?_ _)) (by first | omega | (simp only [szA, szS, szD, World.heap_drewN] at * <;> omega)), (by repeat (first | (with_reducible exact HB3.out) | (refine Below.setCell ?_ (by first | omega | (simp only [szA, szS, szD, World.heap_drewN] at * <;> omega)) _) | (refine Below.alloc ?_ (by first | omega | (simp only [szA, szS, szD, World.heap_drewN] at * <;> omega)) _) | refine Below.drew ?_))⟩
              · have hp : acq ⟨f, l, q⟩ t c = (⟨f, l, q ++ [(t, c)]⟩, false, true) := by simp only [acq]; rw [if_pos ⟨hv, ht, hin, h1, h2⟩, if_neg (fun e => h3 e.2)]
                rw [hp]
                have HV := Lib.hid hv; clear hv hp ht hin
                have e4 : decide (c ≤ f) = false := by simp; omega
                go_enter Try.func34, Try.ntmps34
                go_wp2_with (first | (go_at_call 73; refine (sSemValid_calls _ _ _ q _ (h.below HB0.out)).mono ?_; rintro e w1 ⟨rfl, hb⟩; rw [HV.out]; have HB1 := Lib.hid (HB0.out.trans (hb.mono HB0.out.size)); have X1 := Lib.hid (below_at hb X0.out); have Y1 := Lib.hid (below_at hb Y0.out); have Z1 := hb.size; clear hb; obtain ⟨c10, c11, c12, k10, k11, k12⟩ := box3 X1.out; obtain ⟨d10, d11, d12, g10, g11, g12⟩ := box3 Y1.out; have L1 := heap_lt Y1.out; have M1 := heap_lt X1.out) | (go_at_call 58; refine (l1Thread_calls _ _).mono ?_; rintro e w' ⟨rfl, rfl⟩; rw [HT.out]) | (go_at_call 74; refine (l1Find_calls _ q _ _ (h.below HB1.out)).mono ?_; rintro e w2 ⟨rfl, hb⟩; have HB2 := Lib.hid (HB1.out.trans (hb.mono HB1.out.size)); have X2 := Lib.hid (below_at hb X1.out); have Y2 := Lib.hid (below_at hb Y1.out); have Z2 := hb.size; clear hb; obtain ⟨c20, c21, c22, k20, k21, k22⟩ := box3 X2.out; obtain ⟨d20, d21, d22, g20, g21, g22⟩ := box3 Y2.out; have L2 := heap_lt Y2.out; have M2 := heap_lt X2.out) | (go_at_call 75; refine (l1Copy_calls _ _ _ q _ (h.below HB2.out) (by have := HQ.out; omega)).mono ?_; rintro e w3 ⟨qv3, rfl, ho, hb⟩; have HO3 := Lib.hid ho; clear ho; obtain ⟨ad3, cp3, rfl⟩ := HO3.out.form; have HB3 := Lib.hid (HB2.out.trans (hb.mono HB2.out.size)); have X3 := Lib.hid (below_at hb X2.out); have Y3 := Lib.hid (below_at hb Y2.out); have Z3 := hb.size; clear hb; obtain ⟨c30, c31, c32, k30, k31, k32⟩ := box3 X3.out; obtain ⟨d30, d31, d32, g30, g31, g32⟩ := box3 Y3.out; have L3 := heap_lt Y3.out; have M3 := heap_lt X3.out) | (at_builtin; refine wpList_snoc _ encP_len one_pair rfl _ _ 46 rfl 62 _ 16 Try.underlying46 info_W rfl (by decide) w2.heap.size (.slice ad3 q.length cp3) q rfl (by repeat (first | (with_reducible exact HO3.out) | refine Own.set ?_ (by first | omega | (simp only [szA, szS, szD, World.heap_drewN] at * <;> omega)) _ | refine Own.alloc ?_ _ | refine Own.drewN ?_ _)) (t, c) _ rfl _ rfl (by first | omega | (simp only [szA, szS, szD, World.heap_drewN] at * <;> omega)) (by decide) (by have := HQ.out; omega) (by first | omega | (simp only [szA, szS, szD, World.heap_drewN] at * <;> omega)) ?_; intro ad4 cp4 w4 hown hgr hat; have HO4 := Lib.hid hown; have HG4 := Lib.hid hgr; clear hown hgr hat; have T4 := Lib.hid (push_at2 (heap_at w3 _) HG4.out (HO3.out.not_new (Nat.le_refl _))); have Y4 := Lib.hid (push_at (heap_up Y3.out) HG4.out HO3.out.blk (by first | omega | (simp only [szA, szS, szD, World.heap_drewN] at * <;> omega))); have HB4 := Lib.hid (push_below (B := w.heap.size) (HB3.out.alloc (by first | omega | (simp only [szA, szS, szD, World.heap_drewN] at * <;> omega)) _) HG4.out HO3.out.blk (by first | omega | (simp only [szA, szS, szD, World.heap_drewN] at * <;> omega)) (by first | omega | (simp only [szA, szS, szD, World.heap_drewN] at * <;> omega))); have Z4 := HG4.out.size; obtain ⟨c40, c41, c42, k40, k41, k42⟩ := box3 T4.out; obtain ⟨d40, d41, d42, g40, g41, g42⟩ := box3 Y4.out; have L4 := heap_lt Y4.out; have M4 := heap_lt T4.out; have N4 := HO4.out.ne T4.out (by decide)))
                refine bodyPost_ret (v := .tuple #[.agg #[.int .i64 f, .int .i64 l, .slice ad4 (q.length + 1) cp4], .bool false, .bool true]) (by simp [results, Try.results34, go_sem, d40, d41, d42, L4, M4]) rfl ⟨_, rfl, ?_, ?_⟩
                · exact Own.mono (base := w2.heap.size) (Own.set (Own.set (Own.set (HO4.out.set_off N4 _) (by first | omega | (simp only [szA, szS, szD, World.heap_drewN] at * <;> omega)) _) (by first | omega | (simp only [szA, szS, szD, World.heap_drewN] at * <;> omega)) _) (by first | omega | (simp only [szA, szS, szD, World.heap_drewN] at * <;> omega)) _) (by first | omega | (simp only [szA, szS, szD, World.heap_drewN] at * <;> omega))
                · exact (by repeat (first | (with_reducible exact HB4.out) | (refine Below.setCell ?_ (by first | omega | (simp only [szA, szS, szD, World.heap_drewN] at * <;> omega)) _) | (refine Below.alloc ?_ (by first | omega | (simp only [szA, szS, szD, World.heap_drewN] at * <;> omega)) _) | refine Below.drew ?_))
          · have e1 : decide (c < 1) = false := by simp; omega
            have e2 : decide (l < c) = true := by simp; omega
            have hp : acq ⟨f, l, q⟩ t c = (SemD.zero, false, false) := by simp [acq, h2]
            rw [hp]
            have HV := Lib.hid hv; clear hv hp
            clear ht hin
            go_enter Try.func34, Try.ntmps34
            go_wp2_with (first | (go_at_call 73; refine (sSemValid_calls _ _ _ q _ (h.below HB0.out)).mono ?_; rintro e w1 ⟨rfl, hb⟩; rw [HV.out]; have HB1 := Lib.hid (HB0.out.trans (hb.mono HB0.out.size)); have X1 := Lib.hid (below_at hb X0.out); have Y1 := Lib.hid (below_at hb Y0.out); have Z1 := hb.size; clear hb; obtain ⟨c10, c11, c12, k10, k11, k12⟩ := box3 X1.out; obtain ⟨d10, d11, d12, g10, g11, g12⟩ := box3 Y1.out; have L1 := heap_lt Y1.out; have M1 := heap_lt X1.out) | (go_at_call 58; refine (l1Thread_calls _ _).mono ?_; rintro e w' ⟨rfl, rfl⟩; rw [HT.out]))
            refine bodyPost_ret (v := .tuple #[.agg #[.int .i64 0, .int .i64 0, .slice none 0 0], .bool false, .bool false]) (by simp [results, Try.results34, go_sem, d10, d11, d12, L1, M1]) rfl ⟨_, rfl, Own.nil _ _ _ _ _, (by repeat (first | (with_reducible exact HB1.out) | (refine Below.setCell ?_ (by first | omega | (simp only [szA, szS, szD, World.heap_drewN] at * <;> omega)) _) | (refine Below.alloc ?_ (by first | omega | (simp only [szA, szS, szD, World.heap_drewN] at * <;> omega)) _) | refine Below.drew ?_))⟩
        · have e1 : decide (c < 1) = true := by simp; omega
          have hp : acq ⟨f, l, q⟩ t c = (SemD.zero, false, false) := by simp [acq, h1]
          rw [hp]
          have HV := Lib.hid hv; clear hv hp
          clear ht hin
          go_enter Try.func34, Try.ntmps34
          go_wp2_with (first | (go_at_call 73; refine (sSemValid_calls _ _ _ q _ (h.below HB0.out)).mono ?_; rintro e w1 ⟨rfl, hb⟩; rw [HV.out]; have HB1 := Lib.hid (HB0.out.trans (hb.mono HB0.out.size)); have X1 := Lib.hid (below_at hb X0.out); have Y1 := Lib.hid (below_at hb Y0.out); have Z1 := hb.size; clear hb; obtain ⟨c10, c11, c12, k10, k11, k12⟩ := box3 X1.out; obtain ⟨d10, d11, d12, g10, g11, g12⟩ := box3 Y1.out; have L1 := heap_lt Y1.out; have M1 := heap_lt X1.out) | (go_at_call 58; refine (l1Thread_calls _ _).mono ?_; rintro e w' ⟨rfl, rfl⟩; rw [HT.out]))
          refine bodyPost_ret (v := .tuple #[.agg #[.int .i64 0, .int .i64 0, .slice none 0 0], .bool false, .bool false]) (by simp [results, Try.results34, go_sem, d10, d11, d12, L1, M1]) rfl ⟨_, rfl, Own.nil _ _ _ _ _, (by repeat (first | (with_reducible exact HB1.out) | (refine Below.setCell ?_ (by first | omega | (simp only [szA, szS, szD, World.heap_drewN] at * <;> omega)) _) | (refine Below.alloc ?_ (by first | omega | (simp only [szA, szS, szD, World.heap_drewN] at * <;> omega)) _) | refine Below.drew ?_))⟩
end Go.Proofs.Ytmmkbiljjhigfaa
