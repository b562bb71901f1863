/- The threads that wait at a channel: Chan.threads, spec.l5Threads. -/
import Derived.Test.YtpgiinklbnlloaaChanPlain
import Derived.Test.YtpgiinklbnlloaaJoin
namespace Go.Proofs.Ytpgiinklbnlloaa
open Go.RowKit
set_option linter.unusedSimpArgs false
set_option linter.unusedVariables false
set_option maxHeartbeats 3200000 in
theorem threads_calls (v : Value) (c : ChanD) (w : World) (h : ChanRow w v c) (hn : c.items.length + c.senders.length + c.getters.length ≤ 1048576) :
    Calls Try.prog 51 #[v] w fun e w' => ∃ v', e = .returned v' ∧ LOwn w.heap.size w'.heap.size w' v' (chanThr c) ∧ Below w.heap.size w w' := by
  obtain ⟨room, it, q, gt, cl⟩ := c
  obtain ⟨a1, p1, a2, p2, a3, p3, rfl, r1, r2, r3⟩ := h
  dsimp only at r1 r2 r3 hn ⊢
  obtain ⟨a, c, e, l, m, r⟩ := PRow.look r2
  injection e with e1 e2 e3
  subst e1 e3
  have R := Lib.hid r; clear r e2
  have R3 := Lib.hid r3
  clear r1 r2 r3
  have hm : q.length ≤ 9223372036854775807 := by omega
  have X0 := Lib.hid (heap_at w (.cells #[.int .i64 room, .slice a1 it.length p1, .slice a2 q.length p2, .slice a3 gt.length p3, .bool cl] 25))
  have B00 := Lib.hid ((Below.refl w.heap.size w).alloc (Nat.le_refl _) (.cells #[.int .i64 room, .slice a1 it.length p1, .slice a2 q.length p2, .slice a3 gt.length p3, .bool cl] 25))
  go_enter Try.func51, Try.ntmps51
  go_wp2
  go_loopw [3, 9] (fun t i wr => ∃ k : Nat, k ≤ q.length ∧ i = .int .i64 k ∧ Own (w.heap.size + 1) 3 1 encI wr t ((q.take k).map (·.1)) ∧
      Below (w.heap.size + 1) (w.alloc (.cells #[.int .i64 room, .slice a1 it.length p1, .slice a2 q.length p2, .slice a3 gt.length p3, .bool cl] 25)) wr) (fun _ i _ => q.length - (intOf i).toNat)
  case atStart => exact ⟨0, Nat.zero_le _, rfl, Own.nil _ _ _ _ _, Below.refl _ _⟩
  case round =>
    obtain ⟨k, hk, rfl, ho, hb⟩ := hrel
    have HO := Lib.hid ho; clear ho
    have HB := Lib.hid hb; clear hb
    have hz : w.heap.size < wr.heap.size := by have := HB.out.size; simp only [szA] at this; omega
    have X1 := Lib.hid (below_at' HB.out X0.out (by omega))
    have BW := Lib.hid (B00.out.trans (HB.out.mono (by omega)))
    obtain ⟨c0, c1, c2, c3, c4, f0, f1, f2, f3, f4⟩ := box5 X1.out
    by_cases hlt : k < q.length
    · obtain ⟨b, o, rfl, hb1, hc1⟩ := R.out (by omega)
      obtain ⟨x, hx⟩ := get_ex hlt
      have hk1 := (BW.out.cell (p := ⟨b, o + k * 2, none⟩) hb1).trans (hc1 k x hx).1
      have hk2 := (BW.out.cell (p := ⟨b, o + k * 2 + 1, none⟩) hb1).trans (hc1 k x hx).2
      have hL : (((q.take k).map (·.1)).length + 1) * 8 ≤ 140737488355328 := by simp; omega
      have HL := Lib.hid hL; clear hL
      have HX := Lib.hid hx; clear hx hc1
      go_wp2_with (at_builtin; (refine wpList_snoc _ encI_len encI_one rfl _ _ 22 rfl 3 _ 8 Try.underlying22 info_int rfl (by decide) (w.heap.size + 1) _ ((q.take k).map (·.1)) rfl (HO.out.alloc _) x.1 _ rfl _ rfl (by simp) (by decide) HL.out (by omega) ?_); intro ad cp w1 hown hg hat; have HO1 := Lib.hid hown; have HG1 := Lib.hid hg; clear hown hg hat)
      go_roundw
      case rel =>
        refine ⟨k + 1, by omega, by go_num, ?_, push_below (HB.out.alloc (by omega) _) HG1.out HO.out.blk (by simp only [szA]; omega) (Nat.le_refl _)⟩
        rw [take_snoc HX.out, List.map_append]; have h := HO1.out; rw [show ((q.take k).map (·.1)).length = k by simp; omega] at h; exact h
      case measure => simp [intOf]; omega
    · have e : q.take k = q := take_all (by omega)
      have ho := HO.out
      rw [e] at ho
      obtain ⟨ad, cp, rfl⟩ := ho.form
      have HO2 := Lib.hid ho; clear ho e
      go_wp2_with (at_builtin; (refine wpList_join _ encI_len encI_one rfl _ _ 22 rfl 3 _ 8 Try.underlying22 info_int rfl (by decide) (w.heap.size + 1) (.slice ad (q.map (·.1)).length cp) (q.map (·.1)) rfl HO2.out (by omega) _ gt rfl (Row.below R3.out BW.out) (by decide) (by simp; omega) ?_); intro ad1 cp1 w1 hown hg; have HO1 := Lib.hid hown; have HG1 := Lib.hid hg; clear hown hg)
      go_ret
      have h := HO1.out
      simp only [List.length_map] at h
      exact ⟨_, rfl, LOwn.of (h.mono (by omega)) (Nat.le_refl _), BW.out.trans (grown_below HG1.out (by omega) (fun g e => by have := (HO2.out.block g e).1; omega))⟩
set_option maxHeartbeats 3200000 in
theorem l5Threads_calls (v : Value) (q : List (Int × Int)) (w : World) (h : PRow w v q) :
    Calls Try.prog 64 #[v] w fun e w' => ∃ v', e = .returned v' ∧ LOwn w.heap.size w'.heap.size w' v' ((q.take 7).map (·.1)) ∧ Below w.heap.size w w' := by
  obtain ⟨a, c, rfl, l, m, r⟩ := h.look
  have R := Lib.hid r; clear r
  have hm : q.length ≤ 9223372036854775807 := by omega
  go_enter Try.func64, Try.ntmps64
  go_wp2
  go_loopw [3, 4] (fun t i wr => ∃ k : Nat, k ≤ q.length ∧ k ≤ 7 ∧ i = .int .i64 k ∧ Own w.heap.size 3 1 encI wr t ((q.take k).map (·.1)) ∧ Below w.heap.size w wr ∧ w.heap.size < wr.heap.size) (fun _ i _ => q.length - (intOf i).toNat)
  case atStart => exact ⟨0, Nat.zero_le _, by omega, rfl, Own.empty (heap_at w _) (Nat.le_refl _), (Below.refl _ _).alloc (Nat.le_refl _) _, by simp⟩
  case round =>
    obtain ⟨k, hk, hk7, rfl, ho, hb, hz⟩ := hrel
    have HO := Lib.hid ho; clear ho
    have HB := Lib.hid hb; clear hb
    by_cases hlt : k < q.length
    · by_cases h6 : k ≤ 6
      · obtain ⟨b, o, rfl, hb1, hc1⟩ := R.out (by omega)
        obtain ⟨x, hx⟩ := get_ex hlt
        have hk1 := (HB.out.cell (p := ⟨b, o + k * 2, none⟩) hb1).trans (hc1 k x hx).1
        have hk2 := (HB.out.cell (p := ⟨b, o + k * 2 + 1, none⟩) hb1).trans (hc1 k x hx).2
        have hL : (((q.take k).map (·.1)).length + 1) * 8 ≤ 140737488355328 := by simp; omega
        have HL := Lib.hid hL; clear hL
        have HX := Lib.hid hx; clear hx hc1
        go_wp2_with (at_builtin; (refine wpList_snoc _ encI_len encI_one rfl _ _ 22 rfl 3 _ 8 Try.underlying22 info_int rfl (by decide) w.heap.size _ ((q.take k).map (·.1)) rfl HO.out x.1 _ rfl _ rfl rfl (by decide) HL.out (by omega) ?_); intro ad cp w1 hown hg hat; have HO1 := Lib.hid hown; have HG1 := Lib.hid hg; have hz1 := hg.size; clear hown hg hat)
        go_roundw
        case rel =>
          refine ⟨k + 1, by omega, by omega, by go_num, ?_, push_below HB.out HG1.out HO.out.blk (by omega) (Nat.le_refl _), by simp only [szA] at hz1; omega⟩
          rw [take_snoc HX.out, List.map_append]; have h := HO1.out; rw [show ((q.take k).map (·.1)).length = k by simp; omega] at h; exact h
        case measure => simp [intOf]; omega
      · have e : k = 7 := by omega
        subst e
        go_wp2
        go_ret
        exact ⟨_, rfl, LOwn.of HO.out (Nat.le_refl _), HB.out⟩
    · have e : q.take k = q.take 7 := by rw [take_all (by omega), take_all (by omega)]
      have ho := HO.out
      rw [e] at ho
      have HO2 := Lib.hid ho; clear ho e
      go_wp2
      go_ret
      exact ⟨_, rfl, LOwn.of HO2.out (Nat.le_refl _), HB.out⟩
end Go.Proofs.Ytpgiinklbnlloaa
