/- spec.ChanValid: what it returns (made by gen_chanvalid.py). -/
import Derived.Test.YtpgiinklbnlloaaChanThr
namespace Go.Proofs.Ytpgiinklbnlloaa
open Go.RowKit
set_option linter.unusedSimpArgs false
set_option linter.unusedVariables false
set_option maxHeartbeats 2000000 in
theorem sChanValid_calls (v : Value) (c : ChanD) (w : World) (h : ChanRow w v c) (hn : c.items.length + c.senders.length + c.getters.length ≤ 1048576) :
    Calls Try.prog 26 #[v] w fun e w' => e = .returned (.bool (chanB c)) ∧ Below w.heap.size w w' := by
  obtain ⟨room, it, q, gt, cl⟩ := c
  have HR := Lib.hid h
  obtain ⟨a1, p1, a2, p2, a3, p3, rfl, r1, r2, r3⟩ := h
  dsimp only at r1 r2 r3 hn HR ⊢
  obtain ⟨x1, y1, e, l1, m1, r1⟩ := IRow.look r1
  injection e with e1 e2 e3
  subst e1 e3
  have HRQ := Lib.hid r2
  obtain ⟨x2, y2, e, l2, m2, r2⟩ := PRow.look r2
  injection e with e1 e2 e3
  subst e1 e3
  have R1 := Lib.hid r1; clear r1
  have R2 := Lib.hid r2; clear r2
  have R3 := Lib.hid r3; clear r3
  have n1 : it.length ≤ 9223372036854775807 := by omega
  have n2 : q.length ≤ 9223372036854775807 := by omega
  have X0 := Lib.hid (heap_at w (.cells #[.int .i64 room, .slice a1 it.length p1, .slice a2 q.length p2, .slice a3 gt.length p3, .bool cl] 25))
  have B00 := Lib.hid ((Below.refl w.heap.size w).alloc (Nat.le_refl _) (.cells #[.int .i64 room, .slice a1 it.length p1, .slice a2 q.length p2, .slice a3 gt.length p3, .bool cl] 25))
  by_cases hh : ChanHead room it.length
  · have HH := Lib.hid hh
    obtain ⟨g1, g2, g3⟩ := hh
    have d1 : decide (room < 0) = false := by simp; omega
    have d2 : decide ((4 : Int) < room) = false := by simp; omega
    have d3 : decide (room < (it.length : Int)) = false := by simp; omega
    by_cases h6 : q.length ≤ 6
    · by_cases h7 : gt.length ≤ 6
      · have d6 : decide ((6 : Int) < (q.length : Int)) = false := by simp; omega
        have d7 : decide ((6 : Int) < (gt.length : Int)) = false := by simp; omega
        go_enter Try.func26, Try.ntmps26
        go_wp2
        go_loop [3] (fun i => ∃ k : Nat, k ≤ it.length ∧ i = .int .i64 k ∧ (∀ x ∈ it.take k, Val x)) (fun i => it.length - (intOf i).toNat)
        case atStart => exact ⟨0, Nat.zero_le _, rfl, by simp⟩
        case round =>
          obtain ⟨k, hk, rfl, hj⟩ := hrel
          have HJ := Lib.hid hj; clear hj
          by_cases hlt : k < it.length
          · obtain ⟨b, o, rfl, hb1, hc1⟩ := R1.out (by omega)
            obtain ⟨x, hx⟩ := get_ex hlt
            have hk1 := (B00.out.cell (p := ⟨b, o + k, none⟩) hb1).trans (hc1 k x hx)
            have HX := Lib.hid hx; clear hx hc1
            cases hv : valB x
            · have HV := Lib.hid hv; clear hv
              go_wp2_with ((go_at_call 62; refine (l2Value_calls _ _).mono ?_; rintro e w' ⟨rfl, rfl⟩; rw [HV.out]))
              go_ret
              exact ⟨ret_bool (chanB_item HX.out HV.out).symm, B00.out⟩
            · have HV := Lib.hid hv; clear hv
              go_wp2_with ((go_at_call 62; refine (l2Value_calls _ _).mono ?_; rintro e w' ⟨rfl, rfl⟩; rw [HV.out]))
              go_round
              case rel => exact ⟨k + 1, by omega, by go_num, all_snoc HX.out HJ.out (valB_true.1 HV.out)⟩
              case measure => simp [intOf]; omega
          · have hi := HJ.out
            rw [take_all (by omega)] at hi
            have HI := Lib.hid hi; clear hi HJ
            go_wp2
            go_loopw [4] (fun i wr => ∃ k : Nat, k ≤ q.length ∧ i = .int .i64 k ∧ (∀ x ∈ q.take k, Val x.2) ∧ Below (w.heap.size + 1) (w.alloc (.cells #[.int .i64 room, .slice a1 it.length p1, .slice a2 q.length p2, .slice a3 gt.length p3, .bool cl] 25)) wr) (fun i _ => q.length - (intOf i).toNat)
            case atStart => exact ⟨0, Nat.zero_le _, rfl, by simp, Below.refl _ _⟩
            case round =>
              obtain ⟨k, hk, rfl, hj, hb⟩ := hrel
              have HJ := Lib.hid hj; clear hj
              have HB := Lib.hid hb; clear hb
              have hz : w.heap.size < wr.heap.size := by have := HB.out.size; simp only [szA] at this; omega
              have X1 := Lib.hid (below_at' HB.out X0.out (by omega))
              have BW := Lib.hid (B00.out.trans (HB.out.mono (by omega)))
              obtain ⟨c0, c1, c2, c3, c4, f0, f1, f2, f3, f4⟩ := box5 X1.out
              by_cases hlt : k < q.length
              · obtain ⟨b, o, rfl, hb1, hc1⟩ := R2.out (by omega)
                obtain ⟨x, hx⟩ := get_ex hlt
                have hk1 := (BW.out.cell (p := ⟨b, o + k * 2, none⟩) hb1).trans (hc1 k x hx).1
                have hk2 := (BW.out.cell (p := ⟨b, o + k * 2 + 1, none⟩) hb1).trans (hc1 k x hx).2
                have HX := Lib.hid hx; clear hx hc1
                cases hv : valB x.2
                · have HV := Lib.hid hv; clear hv
                  go_wp2_with ((go_at_call 62; refine (l2Value_calls _ _).mono ?_; rintro e w' ⟨rfl, rfl⟩; rw [HV.out]))
                  go_ret
                  exact ⟨ret_bool (chanB_send HX.out HV.out).symm, BW.out⟩
                · have HV := Lib.hid hv; clear hv
                  go_wp2_with ((go_at_call 62; refine (l2Value_calls _ _).mono ?_; rintro e w' ⟨rfl, rfl⟩; rw [HV.out]))
                  go_roundw
                  case rel => exact ⟨k + 1, by omega, by go_num, all_snoc HX.out HJ.out (valB_true.1 HV.out), HB.out⟩
                  case measure => simp [intOf]; omega
              · have hi := HJ.out
                rw [take_all (by omega)] at hi
                have HS := Lib.hid hi; clear hi HJ
                have R2W := Lib.hid (Row.below HRQ.out BW.out)
                have et : (q.take 7).map (·.1) ++ gt = chanThr ⟨room, it, q, gt, cl⟩ := by rw [take_all (by omega)]; rfl
                have hl7 : (((q.take 7).map (·.1)).length + gt.length) * 8 ≤ 140737488355328 := by simp; omega
                obtain ⟨ts, hts⟩ : ∃ ts, (q.take 7).map (·.1) = ts := ⟨_, rfl⟩
                rw [hts] at et hl7
                have HTS := Lib.hid hts; clear hts
                have ET := Lib.hid et; clear et
                have HL7 := Lib.hid hl7; clear hl7
                go_wp2_with (fail)
                go_region_held3 (fun w' => w'.cell? ⟨w.heap.size, 2, none⟩ = some (.slice a2 q.length p2) ∧ w'.cell? ⟨w.heap.size, 3, none⟩ = some (.slice a3 gt.length p3)) (go_keep)
                  (first
                    | (go_at_call 64; refine (l5Threads_calls _ q _ (Row.below R2W.out (Below.refl _ _).drew)).mono ?_; rintro e w1 ⟨v1, rfl, ho, hb⟩; rw [HTS.out] at ho; have B1 := Lib.hid (Below.trans BW.out.drew (hb.mono (by exact Nat.le_of_lt hz))); have Y1 := Lib.hid (below_at hb (heap_drew X1.out)); have z1 : wr.heap.size ≤ w1.heap.size := hb.size; have O1 := Lib.hid (LOwn.own ho); (obtain ⟨ad1, cp1, rfl, hx⟩ := ho); clear hb hx; obtain ⟨c10, c11, c12, c13, c14, f10, f11, f12, f13, f14⟩ := box5 Y1.out)
                    | (go_at_call 63; refine (l2Waits_calls _ (ts ++ gt) _ (O2.out.row encI_len)).mono ?_; rintro e w3 ⟨rfl, hb⟩; rw [ET.out]; have B3 := Lib.hid (B2.out.trans (hb.mono (by omega))); have Y3 := Lib.hid (below_at hb Y2.out); have z3 := hb.size; clear hb; obtain ⟨c30, c31, c32, c33, c34, f30, f31, f32, f33, f34⟩ := box5 Y3.out)
                    | (refine step_join _ encI_len encI_one (by rfl) _ _ 22 (by rfl) 3 _ 8 Try.underlying22 info_int rfl (by decide) wr.drew.heap.size _ ts (by rfl) O1.out (by exact z1) _ gt (by rfl) (by exact Row.below R3.out B1.out) (by decide) HL7.out ?_; intro ad2 cp2 w2 hown hg; have O2 := Lib.hid hown; have B2 := Lib.hid (B1.out.trans (grown_below hg (by omega) (fun g e => by have := (O1.out.block g e).1; simp only [szD] at this; omega))); have Y2 := Lib.hid (grow_at hg Y1.out (O1.out.ne Y1.out (by decide))); have z2 := hg.size; clear hown hg; obtain ⟨c20, c21, c22, c23, c24, f20, f21, f22, f23, f24⟩ := box5 Y2.out))
                clear c0 c1 c2 c3 c4 f0 f1 f2 f3 f4 c10 c11 c12 c13 c14 f10 f11 f12 f13 f14 c20 c21 c22 c23 c24 f20 f21 f22 f23 f24
                cases hd : distB (chanThr ⟨room, it, q, gt, cl⟩)
                · have HD := Lib.hid hd; clear hd
                  go_wp2
                  go_ret
                  exact ⟨ret_bool (chanB_thr HD.out).symm, B3.out⟩
                · have HD := Lib.hid hd; clear hd
                  by_cases hS : 0 < q.length
                  · have dS : decide ((0 : Int) < (q.length : Int)) = true := decide_eq_true (by omega)
                    by_cases hI : (it.length : Int) = room
                    · have dI : decide ((it.length : Int) < room) = false := by simp; omega
                      by_cases hG : 0 < gt.length
                      · have dG : decide ((0 : Int) < (gt.length : Int)) = true := decide_eq_true (by omega)
                        have dG' := len_ne hG
                        go_wp2
                        go_ret
                        exact ⟨ret_bool (chanB_tail (c := ⟨room, it, q, gt, _⟩) (show ¬ ChanTail room it q gt _ from fun t => by have := (t.1 hS).2.1; omega)).symm, B3.out⟩
                      · have dG : decide ((0 : Int) < (gt.length : Int)) = false := decide_eq_false (by omega)
                        have dG' := len_eq hG
                        cases cl
                        · go_wp2
                          go_ret
                          exact ⟨ret_bool (chanB_yes (c := ⟨room, it, q, gt, _⟩) HH.out HI.out HS.out HD.out (show ChanTail room it q gt _ from ⟨fun _ => ⟨hI, by omega, rfl⟩, .inl (by omega)⟩)).symm, B3.out⟩
                        · go_wp2
                          go_ret
                          exact ⟨ret_bool (chanB_tail (c := ⟨room, it, q, gt, _⟩) (show ¬ ChanTail room it q gt _ from fun t => by cases (t.1 hS).2.2)).symm, B3.out⟩
                    · have dI : decide ((it.length : Int) < room) = true := by simp; omega
                      go_wp2
                      go_ret
                      exact ⟨ret_bool (chanB_tail (c := ⟨room, it, q, gt, _⟩) (show ¬ ChanTail room it q gt _ from fun t => hI (t.1 hS).1)).symm, B3.out⟩
                  · have dS : decide ((0 : Int) < (q.length : Int)) = false := decide_eq_false (by omega)
                    by_cases hG : 0 < gt.length
                    · have dG : decide ((0 : Int) < (gt.length : Int)) = true := decide_eq_true (by omega)
                      have dG' := len_ne hG
                      by_cases hE : 0 < it.length
                      · have dE := len_ne hE
                        go_wp2
                        go_ret
                        exact ⟨ret_bool (chanB_tail (c := ⟨room, it, q, gt, _⟩) (show ¬ ChanTail room it q gt _ from fun t => by rcases t.2 with h | h <;> omega)).symm, B3.out⟩
                      · have dE := len_eq hE
                        cases cl
                        · go_wp2
                          go_ret
                          exact ⟨ret_bool (chanB_yes (c := ⟨room, it, q, gt, _⟩) HH.out HI.out HS.out HD.out (show ChanTail room it q gt _ from ⟨fun h => absurd h hS, .inr ⟨by omega, rfl⟩⟩)).symm, B3.out⟩
                        · go_wp2
                          go_ret
                          exact ⟨ret_bool (chanB_tail (c := ⟨room, it, q, gt, _⟩) (show ¬ ChanTail room it q gt _ from fun t => by rcases t.2 with h | h; exact absurd h (by omega); cases h.2)).symm, B3.out⟩
                    · have dG : decide ((0 : Int) < (gt.length : Int)) = false := decide_eq_false (by omega)
                      have dG' := len_eq hG
                      go_wp2
                      go_ret
                      exact ⟨ret_bool (chanB_yes (c := ⟨room, it, q, gt, _⟩) HH.out HI.out HS.out HD.out (show ChanTail room it q gt _ from ⟨fun h => absurd h hS, .inl (by omega)⟩)).symm, B3.out⟩
      · have d6 : decide ((6 : Int) < (q.length : Int)) = false := by simp; omega
        have d7 : decide ((6 : Int) < (gt.length : Int)) = true := by simp; omega
        go_enter Try.func26, Try.ntmps26
        go_wp2
        go_ret
        exact ⟨ret_bool (chanB_false.2 (fun k => by have := k.small; simp only at this; omega)).symm, B00.out⟩
    · have d6 : decide ((6 : Int) < (q.length : Int)) = true := by simp; omega
      go_enter Try.func26, Try.ntmps26
      go_wp2
      go_ret
      exact ⟨ret_bool (chanB_false.2 (fun k => by have := k.small; simp only at this; omega)).symm, B00.out⟩
  · have HH := Lib.hid hh; clear hh
    go_enter Try.func26, Try.ntmps26
    go_wp2
    all_goals first
      | (go_ret; exact ⟨ret_bool (chanB_head HH.out).symm, B00.out⟩)
      | (exfalso; exact HH.out ⟨by omega, by omega, by omega⟩)
end Go.Proofs.Ytpgiinklbnlloaa
