/- Functions on semaphores: what they return (made by gen_sem.py). -/
import Derived.Test.YtmmkbiljjhigfaaServe
import Derived.Test.YtmmkbiljjhigfaaSemValidS
import Derived.Test.YtmmkbiljjhigfaaSemRes
import Derived.Test.YtmmkbiljjhigfaaBase2
namespace Go.Proofs.Ytmmkbiljjhigfaa
open Go.RowKit
set_option linter.unusedSimpArgs false
set_option linter.unusedVariables false
set_option maxHeartbeats 3200000
theorem Release_calls (f l c : Int) (v : Value) (q : List (Int × Int)) (w : World) (h : PRow w v q) :
    Calls Try.prog 36 #[.agg #[.int .i64 f, .int .i64 l, v], .int .i64 c] w fun e w' => ∃ qv gv, e = .returned (.tuple #[.agg #[.int .i64 (rel ⟨f, l, q⟩ c).1.free, .int .i64 (rel ⟨f, l, q⟩ c).1.limit, qv], gv, .bool (rel ⟨f, l, q⟩ c).2.2]) ∧
      Own w.heap.size 62 2 encP w' qv (rel ⟨f, l, q⟩ c).1.q ∧ Own w.heap.size 3 1 encI w' gv (rel ⟨f, l, q⟩ c).2.1 ∧ Below w.heap.size w w' := by
  obtain ⟨a, cp, rfl, _⟩ := id h
  have hb0 : Below w.heap.size w ((w.alloc (.cells #[.int .i64 f, .int .i64 l, .slice a q.length cp] 48)).alloc (.cells #[.int .i64 0, .int .i64 0, .slice none 0 0] 48)) := ((Below.refl _ _).alloc (Nat.le_refl _) _).alloc (by simp) _
  have HB0 := Lib.hid hb0; clear hb0
  have X0 := Lib.hid (heap_up (B := .cells #[.int .i64 0, .int .i64 0, .slice none 0 0] 48) (heap_at w (.cells #[.int .i64 f, .int .i64 l, .slice a q.length cp] 48)))
  have Y0 := Lib.hid (heap_at1 w (.cells #[.int .i64 f, .int .i64 l, .slice a q.length cp] 48) (.cells #[.int .i64 0, .int .i64 0, .slice none 0 0] 48))
  cases hv : semB ⟨f, l, q⟩
  · have hp : rel ⟨f, l, q⟩ c = (SemD.zero, [], false) := by simp [rel, hv]
    rw [hp]
    have HV := Lib.hid hv; clear hv hp
    go_enter Try.func36, Try.ntmps36
    go_wp2_with (first | (go_at_call 37; refine (SemValid_calls _ _ _ q _ (h.below HB0.out)).mono ?_; rintro e w1 ⟨rfl, hb⟩; rw [HV.out]; have HB1 := Lib.hid (HB0.out.trans (hb.mono HB0.out.size)); have X1 := Lib.hid (below_at hb X0.out); have Y1 := Lib.hid (below_at hb Y0.out); have Z1 := hb.size; clear hb; obtain ⟨c10, c11, c12, k10, k11, k12⟩ := box3 X1.out; obtain ⟨d10, d11, d12, g10, g11, g12⟩ := box3 Y1.out; have L1 := heap_lt Y1.out; have M1 := heap_lt X1.out))
    refine bodyPost_ret (v := .tuple #[.agg #[.int .i64 0, .int .i64 0, .slice none 0 0], .slice none 0 0, .bool false]) (by simp [results, Try.results36, go_sem, d10, d11, d12, L1, M1]) rfl ⟨_, _, rfl, Own.nil _ _ _ _ _, Own.nil _ _ _ _ _, (by repeat (first | (with_reducible exact HB1.out) | (refine Below.setCell ?_ (by first | omega | (simp only [szA, szS, szD, World.heap_drewN] at * <;> omega)) _) | (refine Below.alloc ?_ (by first | omega | (simp only [szA, szS, szD, World.heap_drewN] at * <;> omega)) _) | refine Below.drew ?_))⟩
  · have hok := semB_true.1 hv
    have HQ : Hid (q.length ≤ 6) := hok.1.2.2.2.2
    have HN : Hid (∀ x ∈ q, 0 ≤ x.2) := fun x hx => by have := (hok.2.1 x hx).1; omega
    have hl1 : 1 ≤ l := hok.1.1
    have hl9 : l ≤ 9 := hok.1.2.1
    have hf0 : 0 ≤ f := hok.1.2.2.1
    have hfl : f ≤ l := hok.1.2.2.2.1
    clear hok
    by_cases h1 : 1 ≤ c
    · by_cases h2 : c ≤ l - f
      · have e1 : decide (c < 1) = false := by simp; omega
        have e2 : decide (l - f < c) = false := by simp; omega
        have hp : rel ⟨f, l, q⟩ c = (⟨(serve (f + c) q).1, l, (serve (f + c) q).2.1⟩, (serve (f + c) q).2.2, true) := by simp only [rel]; rw [if_pos ⟨hv, h1, h2⟩]
        rw [hp]
        have HV := Lib.hid hv; clear hv hp
        go_enter Try.func36, Try.ntmps36
        go_wp2_with (first | (go_at_call 37; refine (SemValid_calls _ _ _ q _ (h.below HB0.out)).mono ?_; rintro e w1 ⟨rfl, hb⟩; rw [HV.out]; have HB1 := Lib.hid (HB0.out.trans (hb.mono HB0.out.size)); have X1 := Lib.hid (below_at hb X0.out); have Y1 := Lib.hid (below_at hb Y0.out); have Z1 := hb.size; clear hb; obtain ⟨c10, c11, c12, k10, k11, k12⟩ := box3 X1.out; obtain ⟨d10, d11, d12, g10, g11, g12⟩ := box3 Y1.out; have L1 := heap_lt Y1.out; have M1 := heap_lt X1.out) | (go_at_call 72; refine (clone_calls _ _ _ q _ (h.below HB1.out) (by have := HQ.out; omega)).mono ?_; rintro e w2 ⟨qv2, rfl, ho, hb⟩; have HO2 := Lib.hid ho; clear ho; obtain ⟨ad2, cp2, rfl⟩ := HO2.out.form; have HB2 := Lib.hid (HB1.out.trans (hb.mono HB1.out.size)); have X2 := Lib.hid (below_at hb X1.out); have Y2 := Lib.hid (below_at hb Y1.out); have Z2 := hb.size; clear hb; obtain ⟨c20, c21, c22, k20, k21, k22⟩ := box3 X2.out; obtain ⟨d20, d21, d22, g20, g21, g22⟩ := box3 Y2.out; have L2 := heap_lt Y2.out; have M2 := heap_lt X2.out; have X2' := Lib.hid (set_at (a := ⟨w.heap.size, 0, none⟩) (set_at (a := ⟨w.heap.size, 2, none⟩) (set_at (a := ⟨w.heap.size, 1, none⟩) (set_at (a := ⟨w.heap.size, 0, none⟩) X2.out rfl rfl (.int .i64 f)) rfl rfl (.int .i64 l)) rfl rfl (.slice ad2 q.length cp2)) rfl rfl (.int .i64 (f + c))); have HO2' := Lib.hid ((((HO2.out.set (a := ⟨w.heap.size, 0, none⟩) (by first | omega | (simp only [szA, szS, szD, World.heap_drewN] at * <;> omega)) (.int .i64 f)).set (a := ⟨w.heap.size, 1, none⟩) (by first | omega | (simp only [szA, szS, szD, World.heap_drewN] at * <;> omega)) (.int .i64 l)).set (a := ⟨w.heap.size, 2, none⟩) (by first | omega | (simp only [szA, szS, szD, World.heap_drewN] at * <;> omega)) (.slice ad2 q.length cp2)).set (a := ⟨w.heap.size, 0, none⟩) (by first | omega | (simp only [szA, szS, szD, World.heap_drewN] at * <;> omega)) (.int .i64 (f + c)))) | (go_at_call 77; refine (hand_calls _ (f + c) l (.slice ad2 q.length cp2) q _ X2'.out (HO2'.out.row encP_len) (HO2.out.ne X2.out (by decide)) (by have := HQ.out; omega) (by omega) HN.out).mono ?_; rintro e w3 ⟨gv, qv3, rfl, hg1, hx3, hq3, hgr⟩; have HG1 := Lib.hid hg1; have X3 := Lib.hid hx3; have HQ3 := Lib.hid hq3; have HGR := Lib.hid hgr; clear hg1 hx3 hq3; have hz3 := hgr.size; have Y3 := Lib.hid ((hgr.block (w.heap.size + 1) (by first | omega | (simp only [szA, szS, szD, World.heap_drewN] at * <;> omega)) (by simp)).trans (set_off (set_off (set_off (set_off Y2.out (by first | omega | (simp only [szA, szS, szD, World.heap_drewN] at * <;> omega)) _) (by first | omega | (simp only [szA, szS, szD, World.heap_drewN] at * <;> omega)) _) (by first | omega | (simp only [szA, szS, szD, World.heap_drewN] at * <;> omega)) _) (by first | omega | (simp only [szA, szS, szD, World.heap_drewN] at * <;> omega)) _)); clear hgr; obtain ⟨ad3, cp3, rfl⟩ := HQ3.out.form; obtain ⟨c30, c31, c32, k30, k31, k32⟩ := box3 X3.out; obtain ⟨d30, d31, d32, g30, g31, g32⟩ := box3 Y3.out))
        refine bodyPost_ret (v := .tuple #[.agg #[.int .i64 (serve (f + c) q).1, .int .i64 l, .slice ad3 (serve (f + c) q).2.1.length cp3], gv, .bool true]) (by simp [results, Try.results36, go_sem, d30, d31, d32]) rfl ⟨_, gv, rfl, ?_, ?_, ?_⟩
        · exact Own.mono (base := w2.heap.size) (by refine Own.set (Own.set (Own.set (HQ3.out.mono (base' := w2.heap.size) (by first | omega | (simp only [szA, szS, szD, World.heap_drewN] at * <;> omega))) (by first | omega | (simp only [szA, szS, szD, World.heap_drewN] at * <;> omega)) _) (by first | omega | (simp only [szA, szS, szD, World.heap_drewN] at * <;> omega)) _) (by first | omega | (simp only [szA, szS, szD, World.heap_drewN] at * <;> omega)) _) (by first | omega | (simp only [szA, szS, szD, World.heap_drewN] at * <;> omega))
        · exact Own.mono (base := w2.heap.size) (by refine Own.set (Own.set (Own.set (HG1.out.mono (base' := w2.heap.size) (by first | omega | (simp only [szA, szS, szD, World.heap_drewN] at * <;> omega))) (by first | omega | (simp only [szA, szS, szD, World.heap_drewN] at * <;> omega)) _) (by first | omega | (simp only [szA, szS, szD, World.heap_drewN] at * <;> omega)) _) (by first | omega | (simp only [szA, szS, szD, World.heap_drewN] at * <;> omega)) _) (by first | omega | (simp only [szA, szS, szD, World.heap_drewN] at * <;> omega))
        · have hb3 := grown_below (base := w.heap.size) HGR.out (by first | omega | (simp only [szA, szS, szD, World.heap_drewN] at * <;> omega)) (fun k e => by cases e; exact Nat.le_refl _)
          have HB3 := Lib.hid (((((HB2.out.setCell (p := ⟨w.heap.size, 0, none⟩) (by first | omega | (simp only [szA, szS, szD, World.heap_drewN] at * <;> omega)) (.int .i64 f)).setCell (p := ⟨w.heap.size, 1, none⟩) (by first | omega | (simp only [szA, szS, szD, World.heap_drewN] at * <;> omega)) (.int .i64 l)).setCell (p := ⟨w.heap.size, 2, none⟩) (by first | omega | (simp only [szA, szS, szD, World.heap_drewN] at * <;> omega)) (.slice ad2 q.length cp2)).setCell (p := ⟨w.heap.size, 0, none⟩) (by first | omega | (simp only [szA, szS, szD, World.heap_drewN] at * <;> omega)) (.int .i64 (f + c))).trans hb3)
          exact (by repeat (first | (with_reducible exact HB3.out) | (refine Below.setCell ?_ (by first | omega | (simp only [szA, szS, szD, World.heap_drewN] at * <;> omega)) _) | (refine Below.alloc ?_ (by first | omega | (simp only [szA, szS, szD, World.heap_drewN] at * <;> omega)) _) | refine Below.drew ?_))
      · have e1 : decide (c < 1) = false := by simp; omega
        have e2 : decide (l - f < c) = true := by simp; omega
        have hp : rel ⟨f, l, q⟩ c = (SemD.zero, [], false) := by simp only [rel]; rw [if_neg (fun e => h2 e.2.2)]
        rw [hp]
        have HV := Lib.hid hv; clear hv hp
        go_enter Try.func36, Try.ntmps36
        go_wp2_with (first | (go_at_call 37; refine (SemValid_calls _ _ _ q _ (h.below HB0.out)).mono ?_; rintro e w1 ⟨rfl, hb⟩; rw [HV.out]; have HB1 := Lib.hid (HB0.out.trans (hb.mono HB0.out.size)); have X1 := Lib.hid (below_at hb X0.out); have Y1 := Lib.hid (below_at hb Y0.out); have Z1 := hb.size; clear hb; obtain ⟨c10, c11, c12, k10, k11, k12⟩ := box3 X1.out; obtain ⟨d10, d11, d12, g10, g11, g12⟩ := box3 Y1.out; have L1 := heap_lt Y1.out; have M1 := heap_lt X1.out))
        refine bodyPost_ret (v := .tuple #[.agg #[.int .i64 0, .int .i64 0, .slice none 0 0], .slice none 0 0, .bool false]) (by simp [results, Try.results36, go_sem, d10, d11, d12, L1, M1]) rfl ⟨_, _, rfl, Own.nil _ _ _ _ _, Own.nil _ _ _ _ _, (by repeat (first | (with_reducible exact HB1.out) | (refine Below.setCell ?_ (by first | omega | (simp only [szA, szS, szD, World.heap_drewN] at * <;> omega)) _) | (refine Below.alloc ?_ (by first | omega | (simp only [szA, szS, szD, World.heap_drewN] at * <;> omega)) _) | refine Below.drew ?_))⟩
    · have e1 : decide (c < 1) = true := by simp; omega
      have hp : rel ⟨f, l, q⟩ c = (SemD.zero, [], false) := by simp [rel, h1]
      rw [hp]
      have HV := Lib.hid hv; clear hv hp
      go_enter Try.func36, Try.ntmps36
      go_wp2_with (first | (go_at_call 37; refine (SemValid_calls _ _ _ q _ (h.below HB0.out)).mono ?_; rintro e w1 ⟨rfl, hb⟩; rw [HV.out]; have HB1 := Lib.hid (HB0.out.trans (hb.mono HB0.out.size)); have X1 := Lib.hid (below_at hb X0.out); have Y1 := Lib.hid (below_at hb Y0.out); have Z1 := hb.size; clear hb; obtain ⟨c10, c11, c12, k10, k11, k12⟩ := box3 X1.out; obtain ⟨d10, d11, d12, g10, g11, g12⟩ := box3 Y1.out; have L1 := heap_lt Y1.out; have M1 := heap_lt X1.out))
      refine bodyPost_ret (v := .tuple #[.agg #[.int .i64 0, .int .i64 0, .slice none 0 0], .slice none 0 0, .bool false]) (by simp [results, Try.results36, go_sem, d10, d11, d12, L1, M1]) rfl ⟨_, _, rfl, Own.nil _ _ _ _ _, Own.nil _ _ _ _ _, (by repeat (first | (with_reducible exact HB1.out) | (refine Below.setCell ?_ (by first | omega | (simp only [szA, szS, szD, World.heap_drewN] at * <;> omega)) _) | (refine Below.alloc ?_ (by first | omega | (simp only [szA, szS, szD, World.heap_drewN] at * <;> omega)) _) | refine Below.drew ?_))⟩

theorem sRelease_calls (f l c : Int) (v : Value) (q : List (Int × Int)) (w : World) (h : PRow w v q) :
    Calls Try.prog 93 #[.agg #[.int .i64 f, .int .i64 l, v], .int .i64 c] w fun e w' => ∃ qv gv, e = .returned (.tuple #[.agg #[.int .i64 (rel ⟨f, l, q⟩ c).1.free, .int .i64 (rel ⟨f, l, q⟩ c).1.limit, qv], gv, .bool (rel ⟨f, l, q⟩ c).2.2]) ∧
      Own w.heap.size 62 2 encP w' qv (rel ⟨f, l, q⟩ c).1.q ∧ Own w.heap.size 3 1 encI w' gv (rel ⟨f, l, q⟩ c).2.1 ∧ Below w.heap.size w w' := by
  obtain ⟨a, cp, rfl, _⟩ := id h
  have hb0 : Below w.heap.size w ((w.alloc (.cells #[.int .i64 f, .int .i64 l, .slice a q.length cp] 48)).alloc (.cells #[.int .i64 0, .int .i64 0, .slice none 0 0] 48)) := ((Below.refl _ _).alloc (Nat.le_refl _) _).alloc (by simp) _
  have HB0 := Lib.hid hb0; clear hb0
  have X0 := Lib.hid (heap_up (B := .cells #[.int .i64 0, .int .i64 0, .slice none 0 0] 48) (heap_at w (.cells #[.int .i64 f, .int .i64 l, .slice a q.length cp] 48)))
  have Y0 := Lib.hid (heap_at1 w (.cells #[.int .i64 f, .int .i64 l, .slice a q.length cp] 48) (.cells #[.int .i64 0, .int .i64 0, .slice none 0 0] 48))
  cases hv : semB ⟨f, l, q⟩
  · have hp : rel ⟨f, l, q⟩ c = (SemD.zero, [], false) := by simp [rel, hv]
    rw [hp]
    have HV := Lib.hid hv; clear hv hp
    go_enter Try.func93, Try.ntmps93
    go_wp2_with (first | (go_at_call 73; refine (sSemValid_calls _ _ _ q _ (h.below HB0.out)).mono ?_; rintro e w1 ⟨rfl, hb⟩; rw [HV.out]; have HB1 := Lib.hid (HB0.out.trans (hb.mono HB0.out.size)); have X1 := Lib.hid (below_at hb X0.out); have Y1 := Lib.hid (below_at hb Y0.out); have Z1 := hb.size; clear hb; obtain ⟨c10, c11, c12, k10, k11, k12⟩ := box3 X1.out; obtain ⟨d10, d11, d12, g10, g11, g12⟩ := box3 Y1.out; have L1 := heap_lt Y1.out; have M1 := heap_lt X1.out))
    refine bodyPost_ret (v := .tuple #[.agg #[.int .i64 0, .int .i64 0, .slice none 0 0], .slice (some ⟨w1.heap.size, 0, none⟩) 0 0, .bool false]) (by simp [results, Try.results93, go_sem, d10, d11, d12, L1, M1]) rfl ⟨_, _, rfl, Own.nil _ _ _ _ _, ?_, (by repeat (first | (with_reducible exact HB1.out) | (refine Below.setCell ?_ (by first | omega | (simp only [szA, szS, szD, World.heap_drewN] at * <;> omega)) _) | (refine Below.alloc ?_ (by first | omega | (simp only [szA, szS, szD, World.heap_drewN] at * <;> omega)) _) | refine Below.drew ?_))⟩
    exact Own.empty (heap_at' (by first | omega | (simp only [szA, szS, szD, World.heap_drewN] at * <;> omega))) (by first | omega | (simp only [szA, szS, szD, World.heap_drewN] at * <;> omega))
  · have hok := semB_true.1 hv
    have HQ : Hid (q.length ≤ 6) := hok.1.2.2.2.2
    have HN : Hid (∀ x ∈ q, 0 ≤ x.2) := fun x hx => by have := (hok.2.1 x hx).1; omega
    have hl1 : 1 ≤ l := hok.1.1
    have hl9 : l ≤ 9 := hok.1.2.1
    have hf0 : 0 ≤ f := hok.1.2.2.1
    have hfl : f ≤ l := hok.1.2.2.2.1
    clear hok
    by_cases h1 : 1 ≤ c
    · by_cases h2 : c ≤ l - f
      · have e1 : decide (c < 1) = false := by simp; omega
        have e2 : decide (l - f < c) = false := by simp; omega
        have hp : rel ⟨f, l, q⟩ c = (⟨(serve (f + c) q).1, l, (serve (f + c) q).2.1⟩, (serve (f + c) q).2.2, true) := by simp only [rel]; rw [if_pos ⟨hv, h1, h2⟩]
        rw [hp]
        have HV := Lib.hid hv; clear hv hp
        go_enter Try.func93, Try.ntmps93
        go_wp2_with (first | (go_at_call 73; refine (sSemValid_calls _ _ _ q _ (h.below HB0.out)).mono ?_; rintro e w1 ⟨rfl, hb⟩; rw [HV.out]; have HB1 := Lib.hid (HB0.out.trans (hb.mono HB0.out.size)); have X1 := Lib.hid (below_at hb X0.out); have Y1 := Lib.hid (below_at hb Y0.out); have Z1 := hb.size; clear hb; obtain ⟨c10, c11, c12, k10, k11, k12⟩ := box3 X1.out; obtain ⟨d10, d11, d12, g10, g11, g12⟩ := box3 Y1.out; have L1 := heap_lt Y1.out; have M1 := heap_lt X1.out) | (go_at_call 75; refine (l1Copy_calls _ _ _ q _ (h.below HB1.out) (by have := HQ.out; omega)).mono ?_; rintro e w2 ⟨qv2, rfl, ho, hb⟩; have HO2 := Lib.hid ho; clear ho; obtain ⟨ad2, cp2, rfl⟩ := HO2.out.form; have HB2 := Lib.hid (HB1.out.trans (hb.mono HB1.out.size)); have X2 := Lib.hid (below_at hb X1.out); have Y2 := Lib.hid (below_at hb Y1.out); have Z2 := hb.size; clear hb; obtain ⟨c20, c21, c22, k20, k21, k22⟩ := box3 X2.out; obtain ⟨d20, d21, d22, g20, g21, g22⟩ := box3 Y2.out; have L2 := heap_lt Y2.out; have M2 := heap_lt X2.out) | (go_at_call 79; refine (l1Serve_calls (f + c) l (.slice ad2 q.length cp2) q _ ((HO2.out.alloc _).row encP_len) (by have := HQ.out; omega) (by omega) HN.out).mono ?_; rintro e w3 ⟨gv, qv3, rfl, hg1, hq3, hb⟩; have HG1 := Lib.hid (hg1.mono (base' := w2.heap.size) (by first | omega | (simp only [szA, szS, szD, World.heap_drewN] at * <;> omega))); have HQ3 := Lib.hid (hq3.mono (base' := w2.heap.size) (by first | omega | (simp only [szA, szS, szD, World.heap_drewN] at * <;> omega))); clear hg1 hq3; have HB3 := Lib.hid ((HB2.out.alloc (by first | omega | (simp only [szA, szS, szD, World.heap_drewN] at * <;> omega)) _).trans (hb.mono (by first | omega | (simp only [szA, szS, szD, World.heap_drewN] at * <;> omega)))); have hz3 := hb.size; have Y3 := Lib.hid (below_at hb (heap_up Y2.out)); clear hb; obtain ⟨ad3, cp3, rfl⟩ := HQ3.out.form; obtain ⟨d30, d31, d32, g30, g31, g32⟩ := box3 Y3.out; have L3 := heap_lt Y3.out))
        refine bodyPost_ret (v := .tuple #[.agg #[.int .i64 (serve (f + c) q).1, .int .i64 l, .slice ad3 (serve (f + c) q).2.1.length cp3], gv, .bool true]) (by simp [results, Try.results93, go_sem, d30, d31, d32, L3]) rfl ⟨_, gv, rfl, ?_, ?_, ?_⟩
        · exact Own.mono (base := w2.heap.size) (by repeat (first | (with_reducible exact HQ3.out) | refine Own.set ?_ (by first | omega | (simp only [szA, szS, szD, World.heap_drewN] at * <;> omega)) _ | refine Own.alloc ?_ _ | refine Own.drewN ?_ _)) (by first | omega | (simp only [szA, szS, szD, World.heap_drewN] at * <;> omega))
        · exact Own.mono (base := w2.heap.size) (by repeat (first | (with_reducible exact HG1.out) | refine Own.set ?_ (by first | omega | (simp only [szA, szS, szD, World.heap_drewN] at * <;> omega)) _ | refine Own.alloc ?_ _ | refine Own.drewN ?_ _)) (by first | omega | (simp only [szA, szS, szD, World.heap_drewN] at * <;> omega))
        · exact (by repeat (first | (with_reducible exact HB3.out) | (refine Below.setCell ?_ (by first | omega | (simp only [szA, szS, szD, World.heap_drewN] at * <;> omega)) _) | (refine Below.alloc ?_ (by first | omega | (simp only [szA, szS, szD, World.heap_drewN] at * <;> omega)) _) | refine Below.drew ?_))
      · have e1 : decide (c < 1) = false := by simp; omega
        have e2 : decide (l - f < c) = true := by simp; omega
        have hp : rel ⟨f, l, q⟩ c = (SemD.zero, [], false) := by simp only [rel]; rw [if_neg (fun e => h2 e.2.2)]
        rw [hp]
        have HV := Lib.hid hv; clear hv hp
        go_enter Try.func93, Try.ntmps93
        go_wp2_with (first | (go_at_call 73; refine (sSemValid_calls _ _ _ q _ (h.below HB0.out)).mono ?_; rintro e w1 ⟨rfl, hb⟩; rw [HV.out]; have HB1 := Lib.hid (HB0.out.trans (hb.mono HB0.out.size)); have X1 := Lib.hid (below_at hb X0.out); have Y1 := Lib.hid (below_at hb Y0.out); have Z1 := hb.size; clear hb; obtain ⟨c10, c11, c12, k10, k11, k12⟩ := box3 X1.out; obtain ⟨d10, d11, d12, g10, g11, g12⟩ := box3 Y1.out; have L1 := heap_lt Y1.out; have M1 := heap_lt X1.out))
        refine bodyPost_ret (v := .tuple #[.agg #[.int .i64 0, .int .i64 0, .slice none 0 0], .slice (some ⟨w1.heap.size, 0, none⟩) 0 0, .bool false]) (by simp [results, Try.results93, go_sem, d10, d11, d12, L1, M1]) rfl ⟨_, _, rfl, Own.nil _ _ _ _ _, ?_, (by repeat (first | (with_reducible exact HB1.out) | (refine Below.setCell ?_ (by first | omega | (simp only [szA, szS, szD, World.heap_drewN] at * <;> omega)) _) | (refine Below.alloc ?_ (by first | omega | (simp only [szA, szS, szD, World.heap_drewN] at * <;> omega)) _) | refine Below.drew ?_))⟩
        exact Own.empty (heap_at' (by first | omega | (simp only [szA, szS, szD, World.heap_drewN] at * <;> omega))) (by first | omega | (simp only [szA, szS, szD, World.heap_drewN] at * <;> omega))
    · have e1 : decide (c < 1) = true := by simp; omega
      have hp : rel ⟨f, l, q⟩ c = (SemD.zero, [], false) := by simp [rel, h1]
      rw [hp]
      have HV := Lib.hid hv; clear hv hp
      go_enter Try.func93, Try.ntmps93
      go_wp2_with (first | (go_at_call 73; refine (sSemValid_calls _ _ _ q _ (h.below HB0.out)).mono ?_; rintro e w1 ⟨rfl, hb⟩; rw [HV.out]; have HB1 := Lib.hid (HB0.out.trans (hb.mono HB0.out.size)); have X1 := Lib.hid (below_at hb X0.out); have Y1 := Lib.hid (below_at hb Y0.out); have Z1 := hb.size; clear hb; obtain ⟨c10, c11, c12, k10, k11, k12⟩ := box3 X1.out; obtain ⟨d10, d11, d12, g10, g11, g12⟩ := box3 Y1.out; have L1 := heap_lt Y1.out; have M1 := heap_lt X1.out))
      refine bodyPost_ret (v := .tuple #[.agg #[.int .i64 0, .int .i64 0, .slice none 0 0], .slice (some ⟨w1.heap.size, 0, none⟩) 0 0, .bool false]) (by simp [results, Try.results93, go_sem, d10, d11, d12, L1, M1]) rfl ⟨_, _, rfl, Own.nil _ _ _ _ _, ?_, (by repeat (first | (with_reducible exact HB1.out) | (refine Below.setCell ?_ (by first | omega | (simp only [szA, szS, szD, World.heap_drewN] at * <;> omega)) _) | (refine Below.alloc ?_ (by first | omega | (simp only [szA, szS, szD, World.heap_drewN] at * <;> omega)) _) | refine Below.drew ?_))⟩
      exact Own.empty (heap_at' (by first | omega | (simp only [szA, szS, szD, World.heap_drewN] at * <;> omega))) (by first | omega | (simp only [szA, szS, szD, World.heap_drewN] at * <;> omega))
end Go.Proofs.Ytmmkbiljjhigfaa
