/- impl.ChanValid: what it returns (made by gen_chanvalid.py). -/
import Derived.Test.YtpgiinklbnlloaaChanThr
namespace Go.Proofs.Ytpgiinklbnlloaa
open Go.RowKit
set_option linter.unusedSimpArgs false
set_option linter.unusedVariables false
set_option maxHeartbeats 2000000 in
theorem ChanValid_calls (v : Value) (c : ChanD) (w : World) (h : ChanRow w v c) (hn : c.items.length + c.senders.length + c.getters.length ≤ 1048576) :
    Calls Try.prog 22 #[v] w fun e w' => e = .returned (.bool (chanB c)) ∧ Below w.heap.size w w' := by
  obtain ⟨room, it, q, gt, cl⟩ := c
  have HR := Lib.hid h
  obtain ⟨a1, p1, a2, p2, a3, p3, rfl, r1, r2, r3⟩ := h
  dsimp only at r1 r2 r3 hn HR ⊢
  obtain ⟨x1, y1, e, l1, m1, r1⟩ := IRow.look r1
  injection e with e1 e2 e3
  subst e1 e3
  obtain ⟨x2, y2, e, l2, m2, r2⟩ := PRow.look r2
  injection e with e1 e2 e3
  subst e1 e3
  have R1 := Lib.hid r1; clear r1
  have R2 := Lib.hid r2; clear r2
  have R3 := Lib.hid r3; clear r3
  have n1 : it.length ≤ 9223372036854775807 := by omega
  have n2 : q.length ≤ 9223372036854775807 := by omega
  have X0 := Lib.hid (heap_at w (.cells #[.int .i64 room, .slice a1 it.length p1, .slice a2 q.length p2, .slice a3 gt.length p3, .bool cl] 25))
  have B00 := Lib.hid ((Below.refl w.heap.size w).alloc (Nat.le_refl _) (.cells #[.int .i64 room, .slice a1 it.length p1, .slice a2 q.length p2, .slice a3 gt.length p3, .bool cl] 25))
  by_cases hh : ChanHead room it.length
  · have HH := Lib.hid hh
    obtain ⟨g1, g2, g3⟩ := hh
    have d1 : decide (room < 0) = false := by simp; omega
    have d2 : decide ((4 : Int) < room) = false := by simp; omega
    have d3 : decide (room < (it.length : Int)) = false := by simp; omega
    go_enter Try.func22, Try.ntmps22
    go_wp2
    go_loop [26] (fun i => ∃ k : Nat, k ≤ it.length ∧ i = .int .i64 k ∧ (∀ x ∈ it.take k, Val x)) (fun i => it.length - (intOf i).toNat)
    case atStart => exact ⟨0, Nat.zero_le _, rfl, by simp⟩
    case round =>
      obtain ⟨k, hk, rfl, hj⟩ := hrel
      have HJ := Lib.hid hj; clear hj
      by_cases hlt : k < it.length
      · obtain ⟨b, o, rfl, hb1, hc1⟩ := R1.out (by omega)
        obtain ⟨x, hx⟩ := get_ex hlt
        have hk1 := (B00.out.cell (p := ⟨b, o + k, none⟩) hb1).trans (hc1 k x hx)
        have HX := Lib.hid hx; clear hx hc1
        cases hv : valB x
        · have HV := Lib.hid hv; clear hv
          go_wp2_with ((go_at_call 52; refine (isValue_calls _ _).mono ?_; rintro e w' ⟨rfl, rfl⟩; rw [HV.out]))
          go_ret
          exact ⟨ret_bool (chanB_item HX.out HV.out).symm, B00.out⟩
        · have HV := Lib.hid hv; clear hv
          go_wp2_with ((go_at_call 52; refine (isValue_calls _ _).mono ?_; rintro e w' ⟨rfl, rfl⟩; rw [HV.out]))
          go_round
          case rel => exact ⟨k + 1, by omega, by go_num, all_snoc HX.out HJ.out (valB_true.1 HV.out)⟩
          case measure => simp [intOf]; omega
      · have hi := HJ.out
        rw [take_all (by omega)] at hi
        have HI := Lib.hid hi; clear hi HJ
        go_wp2
        go_loopw [37] (fun i wr => ∃ k : Nat, k ≤ q.length ∧ i = .int .i64 k ∧ (∀ x ∈ q.take k, Val x.2) ∧ Below (w.heap.size + 1) (w.alloc (.cells #[.int .i64 room, .slice a1 it.length p1, .slice a2 q.length p2, .slice a3 gt.length p3, .bool cl] 25)) wr) (fun i _ => q.length - (intOf i).toNat)
        case atStart => exact ⟨0, Nat.zero_le _, rfl, by simp, Below.refl _ _⟩
        case round =>
          obtain ⟨k, hk, rfl, hj, hb⟩ := hrel
          have HJ := Lib.hid hj; clear hj
          have HB := Lib.hid hb; clear hb
          have hz : w.heap.size < wr.heap.size := by have := HB.out.size; simp only [szA] at this; omega
          have X1 := Lib.hid (below_at' HB.out X0.out (by omega))
          have BW := Lib.hid (B00.out.trans (HB.out.mono (by omega)))
          obtain ⟨c0, c1, c2, c3, c4, f0, f1, f2, f3, f4⟩ := box5 X1.out
          by_cases hlt : k < q.length
          · obtain ⟨b, o, rfl, hb1, hc1⟩ := R2.out (by omega)
            obtain ⟨x, hx⟩ := get_ex hlt
            have hk1 := (BW.out.cell (p := ⟨b, o + k * 2, none⟩) hb1).trans (hc1 k x hx).1
            have hk2 := (BW.out.cell (p := ⟨b, o + k * 2 + 1, none⟩) hb1).trans (hc1 k x hx).2
            have HX := Lib.hid hx; clear hx hc1
            cases hv : valB x.2
            · have HV := Lib.hid hv; clear hv
              go_wp2_with ((go_at_call 52; refine (isValue_calls _ _).mono ?_; rintro e w' ⟨rfl, rfl⟩; rw [HV.out]))
              go_ret
              exact ⟨ret_bool (chanB_send HX.out HV.out).symm, BW.out.alloc (by omega) _⟩
            · have HV := Lib.hid hv; clear hv
              go_wp2_with ((go_at_call 52; refine (isValue_calls _ _).mono ?_; rintro e w' ⟨rfl, rfl⟩; rw [HV.out]))
              go_roundw
              case rel => exact ⟨k + 1, by omega, by go_num, all_snoc HX.out HJ.out (valB_true.1 HV.out), HB.out.alloc (by omega) _⟩
              case measure => simp [intOf]; omega
          · have hi := HJ.out
            rw [take_all (by omega)] at hi
            have HS := Lib.hid hi; clear hi HJ
            go_wp2_with (fail)
            refine (threads_calls _ ⟨room, it, q, gt, cl⟩ _ (ChanRow.below HR.out BW.out) hn).mono ?_
            rintro e w1 ⟨v1, rfl, ho, hb⟩
            have B1 := Lib.hid (BW.out.trans (hb.mono (by omega))); have Y1 := Lib.hid (below_at hb X1.out); have O1 := Lib.hid ho
            obtain ⟨ad1, cp1, rfl, hx⟩ := ho
            have z1 := hb.size
            clear hb hx
            go_wp2_with (fail)
            refine (distinct_calls _ (chanThr ⟨room, it, q, gt, cl⟩) _ O1.out.row).mono ?_
            rintro e w2 ⟨rfl, hb⟩
            have B2 := Lib.hid (B1.out.trans (hb.mono (by omega))); have Y2 := Lib.hid (below_at hb Y1.out); have z2 := hb.size
            clear hb c0 c1 c2 c3 c4 f0 f1 f2 f3 f4
            obtain ⟨c0, c1, c2, c3, c4, f0, f1, f2, f3, f4⟩ := box5 Y2.out
            cases hd : distB (chanThr ⟨room, it, q, gt, cl⟩)
            · have HD := Lib.hid hd; clear hd
              go_wp2
              go_ret
              exact ⟨ret_bool (chanB_thr HD.out).symm, B2.out⟩
            · have HD := Lib.hid hd; clear hd
              by_cases hS : 0 < q.length
              · have dS : decide ((0 : Int) < (q.length : Int)) = true := decide_eq_true (by omega)
                by_cases hI : (it.length : Int) = room
                · have dI : ((it.length : Int) != room) = false := by simpa using hI
                  by_cases hG : 0 < gt.length
                  · have dG : decide ((0 : Int) < (gt.length : Int)) = true := decide_eq_true (by omega)
                    have dG' := len_ne hG
                    go_wp2
                    go_ret
                    exact ⟨ret_bool (chanB_tail (c := ⟨room, it, q, gt, _⟩) (show ¬ ChanTail room it q gt _ from fun t => by have := (t.1 hS).2.1; omega)).symm, B2.out⟩
                  · have dG : decide ((0 : Int) < (gt.length : Int)) = false := decide_eq_false (by omega)
                    have dG' := len_eq hG
                    cases cl
                    · go_wp2
                      go_ret
                      exact ⟨ret_bool (chanB_yes (c := ⟨room, it, q, gt, _⟩) HH.out HI.out HS.out HD.out (show ChanTail room it q gt _ from ⟨fun _ => ⟨hI, by omega, rfl⟩, .inl (by omega)⟩)).symm, B2.out⟩
                    · go_wp2
                      go_ret
                      exact ⟨ret_bool (chanB_tail (c := ⟨room, it, q, gt, _⟩) (show ¬ ChanTail room it q gt _ from fun t => by cases (t.1 hS).2.2)).symm, B2.out⟩
                · have dI : ((it.length : Int) != room) = true := by simpa using hI
                  go_wp2
                  go_ret
                  exact ⟨ret_bool (chanB_tail (c := ⟨room, it, q, gt, _⟩) (show ¬ ChanTail room it q gt _ from fun t => hI (t.1 hS).1)).symm, B2.out⟩
              · have dS : decide ((0 : Int) < (q.length : Int)) = false := decide_eq_false (by omega)
                by_cases hG : 0 < gt.length
                · have dG : decide ((0 : Int) < (gt.length : Int)) = true := decide_eq_true (by omega)
                  have dG' := len_ne hG
                  by_cases hE : 0 < it.length
                  · have dE := len_ne hE
                    go_wp2
                    go_ret
                    exact ⟨ret_bool (chanB_tail (c := ⟨room, it, q, gt, _⟩) (show ¬ ChanTail room it q gt _ from fun t => by rcases t.2 with h | h <;> omega)).symm, B2.out⟩
                  · have dE := len_eq hE
                    cases cl
                    · go_wp2
                      go_ret
                      exact ⟨ret_bool (chanB_yes (c := ⟨room, it, q, gt, _⟩) HH.out HI.out HS.out HD.out (show ChanTail room it q gt _ from ⟨fun h => absurd h hS, .inr ⟨by omega, rfl⟩⟩)).symm, B2.out⟩
                    · go_wp2
                      go_ret
                      exact ⟨ret_bool (chanB_tail (c := ⟨room, it, q, gt, _⟩) (show ¬ ChanTail room it q gt _ from fun t => by rcases t.2 with h | h; exact absurd h (by omega); cases h.2)).symm, B2.out⟩
                · have dG : decide ((0 : Int) < (gt.length : Int)) = false := decide_eq_false (by omega)
                  have dG' := len_eq hG
                  go_wp2
                  go_ret
                  exact ⟨ret_bool (chanB_yes (c := ⟨room, it, q, gt, _⟩) HH.out HI.out HS.out HD.out (show ChanTail room it q gt _ from ⟨fun h => absurd h hS, .inl (by omega)⟩)).symm, B2.out⟩
  · have HH := Lib.hid hh; clear hh
    go_enter Try.func22, Try.ntmps22
    go_wp2
    all_goals first
      | (go_ret; exact ⟨ret_bool (chanB_head HH.out).symm, B00.out⟩)
      | (exfalso; exact HH.out ⟨by omega, by omega, by omega⟩)
end Go.Proofs.Ytpgiinklbnlloaa
