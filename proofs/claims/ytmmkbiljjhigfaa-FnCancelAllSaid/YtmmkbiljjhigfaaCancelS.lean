/- spec.CancelWait: what it returns. -/
import Derived.Test.YtmmkbiljjhigfaaCancelI
import Derived.Deep.RegionHeld3
import Derived.Deep.DrawnRows
namespace Go.Proofs.Ytmmkbiljjhigfaa
open Go.RowKit
set_option linter.unusedSimpArgs false
set_option linter.unusedVariables false
attribute [local go_sem ↓] Go.wp_at_zero Go.wp_at_succ
set_option maxHeartbeats 3200000
theorem sCancelWait_calls (f l t : Int) (v : Value) (q : List (Int × Int)) (w : World) (h : PRow w v q) :
    Calls Try.prog 41 #[.agg #[.int .i64 f, .int .i64 l, v], .int .i64 t] w fun e w' => ∃ qv gv, e = .returned (.tuple #[.agg #[.int .i64 (cancel ⟨f, l, q⟩ t).1.free, .int .i64 (cancel ⟨f, l, q⟩ t).1.limit, qv], gv, .bool (cancel ⟨f, l, q⟩ t).2.2]) ∧
      Own w.heap.size 62 2 encP w' qv (cancel ⟨f, l, q⟩ t).1.q ∧ Own w.heap.size 3 1 encI w' gv (cancel ⟨f, l, q⟩ t).2.1 ∧ Below w.heap.size w w' := by
  obtain ⟨a, cp, rfl, hqc, hcm, hlk⟩ := h.look
  have hb0 : Below w.heap.size w ((w.alloc (.cells #[.int .i64 f, .int .i64 l, .slice a q.length cp] 48)).alloc (.cells #[.int .i64 0, .int .i64 0, .slice none 0 0] 48)) := ((Below.refl _ _).alloc (Nat.le_refl _) _).alloc (by simp) _
  have HB0 := Lib.hid hb0; clear hb0
  have X0 := Lib.hid (heap_up (B := .cells #[.int .i64 0, .int .i64 0, .slice none 0 0] 48) (heap_at w (.cells #[.int .i64 f, .int .i64 l, .slice a q.length cp] 48)))
  have Y0 := Lib.hid (heap_at1 w (.cells #[.int .i64 f, .int .i64 l, .slice a q.length cp] 48) (.cells #[.int .i64 0, .int .i64 0, .slice none 0 0] 48))
  cases hv : semB ⟨f, l, q⟩
  · have hp : cancel ⟨f, l, q⟩ t = (SemD.zero, [], false) := by simp [cancel, hv]
    rw [hp]
    have HV := Lib.hid hv; clear hv hp hlk
    go_enter Try.func41, Try.ntmps41
    go_wp2_with (first | (go_at_call 74; refine (l1Find_calls _ q _ _ (h.below HB0.out)).mono ?_; rintro e w1 ⟨rfl, hb⟩; have HB1 := Lib.hid (HB0.out.trans (hb.mono HB0.out.size)); have X1 := Lib.hid (below_at hb X0.out); have Y1 := Lib.hid (below_at hb Y0.out); have Z1 := hb.size; clear hb; obtain ⟨c10, c11, c12, k10, k11, k12⟩ := box3 X1.out; obtain ⟨d10, d11, d12, g10, g11, g12⟩ := box3 Y1.out; have L1 := heap_lt Y1.out; have M1 := heap_lt X1.out) | (go_at_call 73; refine (sSemValid_calls _ _ _ q _ (h.below HB1.out)).mono ?_; rintro e w2 ⟨rfl, hb⟩; rw [HV.out]; have HB2 := Lib.hid (HB1.out.trans (hb.mono HB1.out.size)); have X2 := Lib.hid (below_at hb X1.out); have Y2 := Lib.hid (below_at hb Y1.out); have Z2 := hb.size; clear hb; obtain ⟨c20, c21, c22, k20, k21, k22⟩ := box3 X2.out; obtain ⟨d20, d21, d22, g20, g21, g22⟩ := box3 Y2.out; have L2 := heap_lt Y2.out; have M2 := heap_lt X2.out))
    refine bodyPost_ret (v := .tuple #[.agg #[.int .i64 0, .int .i64 0, .slice none 0 0], .slice (some ⟨w2.heap.size, 0, none⟩) 0 0, .bool false]) (by simp [results, Try.results41, go_sem, d20, d21, d22, L2, M2]) rfl ⟨_, _, rfl, Own.nil _ _ _ _ _, ?_, (by repeat (first | (with_reducible exact HB2.out) | (refine Below.setCell ?_ (by first | omega | (simp only [szA, szS, szD, World.heap_drewN] at * <;> omega)) _) | (refine Below.alloc ?_ (by first | omega | (simp only [szA, szS, szD, World.heap_drewN] at * <;> omega)) _) | refine Below.drew ?_))⟩
    exact Own.empty (heap_at' (by first | omega | (simp only [szA, szS, szD, World.heap_drewN] at * <;> omega))) (by first | omega | (simp only [szA, szS, szD, World.heap_drewN] at * <;> omega))
  · have hok := semB_true.1 hv
    have HQ : Hid (q.length ≤ 6) := hok.1.2.2.2.2
    have hl1 : 1 ≤ l := hok.1.1
    have hl9 : l ≤ 9 := hok.1.2.1
    have hf0 : 0 ≤ f := hok.1.2.2.1
    have hfl : f ≤ l := hok.1.2.2.2.1
    by_cases hin : t ∈ q.map (·.1)
    · obtain ⟨k, hk, hfk⟩ := findW_some hin
      obtain ⟨b, o, rfl, hbl, _⟩ := hlk (by omega)
      obtain ⟨c, hcc⟩ : ∃ c, c = cut q k := ⟨_, rfl⟩
      have hp : cancel ⟨f, l, q⟩ t = (⟨(serve f c).1, l, (serve f c).2.1⟩, (serve f c).2.2, true) := by simp only [cancel]; rw [if_pos ⟨hv, hin⟩, hfk, Int.toNat_natCast, hcc]
      rw [hp]
      have HN : Hid (∀ x ∈ c, 0 ≤ x.2) := fun x hx => by rw [hcc] at hx; have := (hok.2.1 x (cut_mem hx)).1; omega
      have hcl : c.length = q.length - 1 := by rw [hcc, cut_len hk]
      obtain ⟨q1, hq1⟩ : ∃ q1, q1 = q.take k := ⟨_, rfl⟩
      obtain ⟨q2, hq2⟩ : ∃ q2, q2 = q.drop (k + 1) := ⟨_, rfl⟩
      have hl1' : q1.length = k := by rw [hq1]; simp; omega
      have hl2' : q2.length = q.length - (k + 1) := by rw [hq2]; simp
      have h12 : q1 ++ q2 = c := by rw [hcc, hq1, hq2]; rfl
      obtain ⟨A, hA⟩ : ∃ A : Addr, (if cp = k + 1 then (some (⟨b, o, none⟩ : Addr)) else some ⟨b, o + (k + 1) * 2, none⟩) = some A := by split <;> exact ⟨_, rfl⟩
      have r1 : PRow w (.slice (some ⟨b, o, none⟩) k cp) q1 := by rw [hq1]; exact Row.head h (by omega)
      have r2 : PRow w (.slice (some A) (q.length - (k + 1)) (cp - (k + 1))) q2 := by rw [hq2, ← hA]; exact Row.rest h (by omega)
      have HR1 := Lib.hid r1; have HR2 := Lib.hid r2; have H12 := Lib.hid h12; have HL1 := Lib.hid hl1'; have HL2 := Lib.hid hl2'
      have HCL := Lib.hid hcl; have HFK := Lib.hid hfk
      have HV := Lib.hid hv; clear hv hp hok hin hfk hcc hcl hlk r1 r2 h12 hl1' hl2' hq1 hq2
      have e5 : decide ((k : Int) < 0) = false := decide_eq_false (by omega)
      go_enter Try.func41, Try.ntmps41
      go_wp2_with (first | (go_at_call 74; refine (l1Find_calls _ q _ _ (h.below HB0.out)).mono ?_; rintro e w1 ⟨rfl, hb⟩; rw [HFK.out]; have HB1 := Lib.hid (HB0.out.trans (hb.mono HB0.out.size)); have X1 := Lib.hid (below_at hb X0.out); have Y1 := Lib.hid (below_at hb Y0.out); have Z1 := hb.size; clear hb; obtain ⟨c10, c11, c12, k10, k11, k12⟩ := box3 X1.out; obtain ⟨d10, d11, d12, g10, g11, g12⟩ := box3 Y1.out; have L1 := heap_lt Y1.out; have M1 := heap_lt X1.out) | (go_at_call 73; refine (sSemValid_calls _ _ _ q _ (h.below HB1.out)).mono ?_; rintro e w2 ⟨rfl, hb⟩; rw [HV.out]; have HB2 := Lib.hid (HB1.out.trans (hb.mono HB1.out.size)); have X2 := Lib.hid (below_at hb X1.out); have Y2 := Lib.hid (below_at hb Y1.out); have Z2 := hb.size; clear hb; obtain ⟨c20, c21, c22, k20, k21, k22⟩ := box3 X2.out; obtain ⟨d20, d21, d22, g20, g21, g22⟩ := box3 Y2.out; have L2 := heap_lt Y2.out; have M2 := heap_lt X2.out) | (go_at_call 75; refine (l1Copy_calls _ _ _ q _ (h.below HB2.out) (by have := HQ.out; omega)).mono ?_; rintro e w3 ⟨qv3, rfl, ho, hb⟩; have HO3 := Lib.hid ho; clear ho; obtain ⟨ad3, cp3, rfl⟩ := HO3.out.form; have HB3 := Lib.hid (HB2.out.trans (hb.mono HB2.out.size)); have X3 := Lib.hid (below_at hb X2.out); have Y3 := Lib.hid (below_at hb Y2.out); have Z3 := hb.size; clear hb; obtain ⟨c30, c31, c32, k30, k31, k32⟩ := box3 X3.out; obtain ⟨d30, d31, d32, g30, g31, g32⟩ := box3 Y3.out; have L3 := heap_lt Y3.out; have M3 := heap_lt X3.out))
      have cx := heap_up (B := .cells #[.int .i64 f, .int .i64 l, .slice ad3 q.length cp3] 48) X3.out
      have cy := heap_up (B := .cells #[.int .i64 f, .int .i64 l, .slice ad3 q.length cp3] 48) Y3.out
      have co := heap_at w3 (.cells #[.int .i64 f, .int .i64 l, .slice ad3 q.length cp3] 48)
      have hbw := HB3.out.alloc (by first | omega | (simp only [szA, szS, szD, World.heap_drewN] at * <;> omega)) (.cells #[.int .i64 f, .int .i64 l, .slice ad3 q.length cp3] 48)
      generalize hW : (w3.alloc (.cells #[.int .i64 f, .int .i64 l, .slice ad3 q.length cp3] 48)) = W at *
      have hz : W.heap.size = w3.heap.size + 1 := by rw [← hW]; simp
      clear hW
      have XW := Lib.hid cx; have YW := Lib.hid cy; have OW := Lib.hid co; have BW := Lib.hid hbw; have HZ := Lib.hid hz
      have hz1 : w.heap.size < W.heap.size := heap_lt cx
      have hz2 : w.heap.size + 1 < W.heap.size := heap_lt cy
      have hz3 : w3.heap.size < W.heap.size := heap_lt co
      clear cx cy co hbw hz
      obtain ⟨x0, x1, x2, fx0, fx1, fx2⟩ := box3 XW.out
      have hic : k ≤ cp := by omega
      have hjc : k + 1 ≤ cp := by omega
      have hz0 : (0 : Int) ≤ (k : Int) + 1 := by omega
      have hzn : (k : Int) + 1 ≤ (q.length : Int) := by omega
      have hkc : (k : Int) ≤ (cp : Int) := by omega
      have hn3 : w3.heap.size ≠ w.heap.size := by have := heap_lt X3.out; omega
      have hn3' : w.heap.size ≠ w3.heap.size := Ne.symm hn3
      have hwr : IntKind.i64.wrap ((k : Int) + 1) = (k : Int) + 1 := IntWalk.i64_in _ (by omega)
      go_region_held3 (fun w' => w'.cell? ⟨w.heap.size, 2, none⟩ = some (.slice (some ⟨b, o, none⟩) q.length cp)) (go_keep)
        (first
          | (refine step_clone _ encP_len one_pair (by rfl) _ _ 46 (by rfl) 62 _ 16 Try.underlying46 info_W rfl (by decide) W.heap.size _ (by rfl) (by exact heap_at W _) (by omega) (.slice (some ⟨b, o, none⟩) k cp) q1 (by rfl) (by exact Row.below (Row.below HR1.out BW.out) ((Below.refl _ _).alloc (Nat.le_refl _) _).drew) (by decide) (by have := HL1.out; have := HQ.out; omega) ?_; intro ad4 cp4 w4 hown hg; have HO4 := Lib.hid hown; clear hown; have HG4 := Lib.hid (clone_below hg); clear hg; obtain ⟨p0, p1, p2, fp0, fp1, fp2⟩ := box3 (below_at HG4.out XW.out))
          | (refine step_join _ encP_len one_pair (by rfl) _ _ 46 (by rfl) 62 _ 16 Try.underlying46 info_W rfl (by decide) W.heap.size _ q1 (by rfl) HO4.out (by exact HG4.out.size) (.slice (some A) (q.length - (k + 1)) (cp - (k + 1))) q2 (by rfl) (by exact Row.below (Row.below HR2.out BW.out) HG4.out) (by decide) (by have := HL1.out; have := HL2.out; have := HQ.out; omega) ?_; intro ad5 cp5 w5 hown hg; rw [H12.out] at hown; have HO5 := Lib.hid hown; have HG5 := Lib.hid (Below.trans (B := W.heap.size) (a := W) HG4.out (grown_below hg (by exact HG4.out.size) (fun g e => (by have h := (HO4.out.block g e).1; exact h)))); clear hown hg; have X5 := Lib.hid (below_at HG5.out XW.out); have Y5 := Lib.hid (below_at HG5.out YW.out); have P5 := Lib.hid (below_at HG5.out OW.out); obtain ⟨y0, y1, y2, fy0, fy1, fy2⟩ := box3 P5.out; obtain ⟨u0, u1, u2, fu0, fu1, fu2⟩ := box3 X5.out))
      clear p0 p1 p2 fp0 fp1 fp2 x0 x1 x2 fx0 fx1 fx2
      have z5 := HG5.out.size
      obtain ⟨d50, d51, d52, g50, g51, g52⟩ := box3 Y5.out
      go_wp2_with (first | (go_at_call 79; refine (l1Serve_calls f l (.slice ad5 (q1.length + q2.length) cp5) c _ ((HO5.out.set (a := ⟨w3.heap.size, 2, none⟩) (by first | omega | (simp only [szA, szS, szD, World.heap_drewN] at * <;> omega)) _).row encP_len) (by have := HQ.out; have := HCL.out; omega) (by omega) HN.out).mono ?_; rintro e w6 ⟨gv, qv6, rfl, hg1, hq6, hb⟩; have HG6 := Lib.hid (hg1.mono (base' := W.heap.size) (by first | omega | (simp only [szA, szS, szD, World.heap_drewN] at * <;> omega))); have HQ6 := Lib.hid (hq6.mono (base' := W.heap.size) (by first | omega | (simp only [szA, szS, szD, World.heap_drewN] at * <;> omega))); clear hg1 hq6; have HB6 := Lib.hid ((Below.setCell (p := ⟨w3.heap.size, 2, none⟩) (BW.out.trans (HG5.out.mono (by first | omega | (simp only [szA, szS, szD, World.heap_drewN] at * <;> omega)))) (by first | omega | (simp only [szA, szS, szD, World.heap_drewN] at * <;> omega)) (.slice ad5 (q1.length + q2.length) cp5)).trans (hb.mono (by first | omega | (simp only [szA, szS, szD, World.heap_drewN] at * <;> omega)))); have hz6 := hb.size; have Y6 := Lib.hid (below_at hb (set_off Y5.out (by first | omega | (simp only [szA, szS, szD, World.heap_drewN] at * <;> omega)) _)); clear hb; obtain ⟨ad6, cp6, rfl⟩ := HQ6.out.form; obtain ⟨d60, d61, d62, g60, g61, g62⟩ := box3 Y6.out; have L6 := heap_lt Y6.out))
      refine bodyPost_ret (v := .tuple #[.agg #[.int .i64 (serve f c).1, .int .i64 l, .slice ad6 (serve f c).2.1.length cp6], gv, .bool true]) (by simp [results, Try.results41, go_sem, d60, d61, d62, L6]) rfl ⟨_, gv, rfl, ?_, ?_, ?_⟩
      · exact Own.mono (base := W.heap.size) (by repeat (first | (with_reducible exact HQ6.out) | refine Own.set ?_ (by first | omega | (simp only [szA, szS, szD, World.heap_drewN] at * <;> omega)) _ | refine Own.alloc ?_ _ | refine Own.drewN ?_ _)) (by first | omega | (simp only [szA, szS, szD, World.heap_drewN] at * <;> omega))
      · exact Own.mono (base := W.heap.size) (by repeat (first | (with_reducible exact HG6.out) | refine Own.set ?_ (by first | omega | (simp only [szA, szS, szD, World.heap_drewN] at * <;> omega)) _ | refine Own.alloc ?_ _ | refine Own.drewN ?_ _)) (by first | omega | (simp only [szA, szS, szD, World.heap_drewN] at * <;> omega))
      · exact (by repeat (first | (with_reducible exact HB6.out) | (refine Below.setCell ?_ (by first | omega | (simp only [szA, szS, szD, World.heap_drewN] at * <;> omega)) _) | (refine Below.alloc ?_ (by first | omega | (simp only [szA, szS, szD, World.heap_drewN] at * <;> omega)) _) | refine Below.drew ?_))
    · have hp : cancel ⟨f, l, q⟩ t = (SemD.zero, [], false) := by simp only [cancel]; rw [if_neg (fun e => hin e.2)]
      rw [hp]
      have e5 : decide (findW t q < 0) = true := decide_eq_true (findW_neg.2 hin)
      have HV := Lib.hid hv; clear hv hp hok hin hlk
      go_enter Try.func41, Try.ntmps41
      go_wp2_with (first | (go_at_call 74; refine (l1Find_calls _ q _ _ (h.below HB0.out)).mono ?_; rintro e w1 ⟨rfl, hb⟩; have HB1 := Lib.hid (HB0.out.trans (hb.mono HB0.out.size)); have X1 := Lib.hid (below_at hb X0.out); have Y1 := Lib.hid (below_at hb Y0.out); have Z1 := hb.size; clear hb; obtain ⟨c10, c11, c12, k10, k11, k12⟩ := box3 X1.out; obtain ⟨d10, d11, d12, g10, g11, g12⟩ := box3 Y1.out; have L1 := heap_lt Y1.out; have M1 := heap_lt X1.out) | (go_at_call 73; refine (sSemValid_calls _ _ _ q _ (h.below HB1.out)).mono ?_; rintro e w2 ⟨rfl, hb⟩; rw [HV.out]; have HB2 := Lib.hid (HB1.out.trans (hb.mono HB1.out.size)); have X2 := Lib.hid (below_at hb X1.out); have Y2 := Lib.hid (below_at hb Y1.out); have Z2 := hb.size; clear hb; obtain ⟨c20, c21, c22, k20, k21, k22⟩ := box3 X2.out; obtain ⟨d20, d21, d22, g20, g21, g22⟩ := box3 Y2.out; have L2 := heap_lt Y2.out; have M2 := heap_lt X2.out))
      refine bodyPost_ret (v := .tuple #[.agg #[.int .i64 0, .int .i64 0, .slice none 0 0], .slice (some ⟨w2.heap.size, 0, none⟩) 0 0, .bool false]) (by simp [results, Try.results41, go_sem, d20, d21, d22, L2, M2]) rfl ⟨_, _, rfl, Own.nil _ _ _ _ _, ?_, (by repeat (first | (with_reducible exact HB2.out) | (refine Below.setCell ?_ (by first | omega | (simp only [szA, szS, szD, World.heap_drewN] at * <;> omega)) _) | (refine Below.alloc ?_ (by first | omega | (simp only [szA, szS, szD, World.heap_drewN] at * <;> omega)) _) | refine Below.drew ?_))⟩
      exact Own.empty (heap_at' (by first | omega | (simp only [szA, szS, szD, World.heap_drewN] at * <;> omega))) (by first | omega | (simp only [szA, szS, szD, World.heap_drewN] at * <;> omega))
end Go.Proofs.Ytmmkbiljjhigfaa
