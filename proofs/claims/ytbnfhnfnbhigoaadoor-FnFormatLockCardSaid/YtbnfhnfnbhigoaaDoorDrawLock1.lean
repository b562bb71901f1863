/- l4Draw: a lock that is drawn is short (made by gen_lockdraw.py). -/
import Derived.Test.YtbnfhnfnbhigoaaDoorUnlock
import Derived.Test.YtbnfhnfnbhigoaaDoorDrLock
import Derived.Test.YtbnfhnfnbhigoaaDoorRgBox
namespace Go.Proofs.YtbnfhnfnbhigoaaDoor
open Go.RowKit
set_option linter.unusedSimpArgs false
set_option linter.unusedVariables false
set_option maxHeartbeats 8000000 in
theorem l4Draw_calls (b N : Nat) (w0 w : World) (h : Dr w0 b N w) (hN : N ≤ 900000) :
    Calls Tryd.prog 31 #[.pointer (some ⟨b, 0, none⟩)] w (LockPost 13 w b (N + 100)) := by
  have A0 := Lib.hid (Dr.start h.r); have hlt := h.r.lt; clear h
  go_enter Tryd.func31, Tryd.ntmps31
  go_wp2_with (fail)
  refine (sNewLock_calls _).mono ?_
  rintro e w1 ⟨vn, rfl, ho_n, hb⟩
  have A1 := Lib.hid (Dr.below (A0.out.alloc _) hb)
  have Z1 := hb.size
  have N1 : w.heap.size + 1 ≤ w1.heap.size := (by first | with_reducible exact Z1 | (simp only [szA, szS, szD] at Z1; omega))
  clear Z1
  have Xres_1 : Hid (w1.heap[w.heap.size]? = some (.cells #[.slice none 0 0, .int .i64 0, .slice none 0 0] 30 (0, 0))) := below_at hb (heap_at' (n := w.heap.size) (by first | omega | (simp only [szA, szS, szD, World.heap_drewN] at * <;> omega)))
  have On_1 := Lib.hid (ho_n.mono (lo' := w.heap.size) (by first | omega | (simp only [szA, szS, szD, World.heap_drewN] at * <;> omega)) (Nat.le_refl _)); obtain ⟨an0, pn0, an2, pn2, rfl, hx_n⟩ := ho_n; clear hx_n
  clear hb
  obtain ⟨cres1_0, cres1_1, cres1_2, fres1_0, fres1_1, fres1_2⟩ := box3 Xres_1.out; have lres1 := heap_lt Xres_1.out
  have S1 : w.heap.size ≤ w1.heap.size := (by omega)
  simp only [List.length_nil] at On_1
  go_wp2_with (fail)
  refine (numD b N _ [4, 3, 6, 2, 1, 0] w _ ((A1.out.alloc _).alloc _) (by omega) (lit_row _ (by decide) rfl rfl (by first | omega | (simp only [szA, szS, szD, World.heap_drewN] at * <;> omega))) (by decide) (by simp [Value.ownBlock]; omega)).mono ?_
  rintro e w2 ⟨i, rfl, hi, hd⟩
  have A2 := Lib.hid (Dr.then ((A1.out.alloc _).alloc _) hd)
  have Z2 := hd.size
  have N2 : w1.heap.size + 2 ≤ w2.heap.size := (by first | with_reducible exact Z2 | (simp only [szA, szS, szD] at Z2; omega))
  clear Z2
  have Xres_2 := Lib.hid (hd.at_ (heap_up (heap_up Xres_1.out)) (by first | omega | (simp only [szA, szS, szD, World.heap_drewN] at * <;> omega)))
  have Xc_2 : Hid (w2.heap[w1.heap.size]? = some (.cells #[.slice an0 0 pn0, .int .i64 (-1), .slice an2 0 pn2] 30 (0, 0))) := hd.at_ (heap_up (heap_at' (n := w1.heap.size) (by first | omega | (simp only [szA, szS, szD, World.heap_drewN] at * <;> omega)))) (by first | omega | (simp only [szA, szS, szD, World.heap_drewN] at * <;> omega))
  have On_2 := Lib.hid (((On_1.out.alloc _).alloc _).past hd.g hlt)
  clear hd
  obtain ⟨cres2_0, cres2_1, cres2_2, fres2_0, fres2_1, fres2_2⟩ := box3 Xres_2.out; have lres2 := heap_lt Xres_2.out
  obtain ⟨cc2_0, cc2_1, cc2_2, fc2_0, fc2_1, fc2_2⟩ := box3 Xc_2.out; have lc2 := heap_lt Xc_2.out
  have S2 : w.heap.size ≤ w2.heap.size := (by omega)
  clear cres1_0 cres1_1 cres1_2 fres1_0 fres1_1 fres1_2
  have hib : 0 ≤ i ∧ i ≤ 6 := by simp at hi; omega
  obtain ⟨hi0, hi1⟩ := hib; clear hi
  obtain ⟨i, rfl⟩ := Int.eq_ofNat_of_zero_le hi0
  go_wp2_with (fail)
  go_loopw [4] (fun v wr => ∃ (k : Nat) (c : LockD) (ac0 : Option Addr) (pc0 : Nat) (ac2 : Option Addr) (pc2 : Nat), k ≤ 6 ∧ v = .int .i64 k ∧ wr.heap[w1.heap.size]? = some (.cells #[.slice ac0 c.readers.length pc0, .int .i64 c.writer, .slice ac2 c.q.length pc2] 30 (0, 0)) ∧ wr.heap[w.heap.size]? = some (.cells #[.slice none 0 0, .int .i64 0, .slice none 0 0] 30 (0, 0)) ∧ LockOwn w.heap.size wr.heap.size wr (.agg #[.slice ac0 c.readers.length pc0, .int .i64 c.writer, .slice ac2 c.q.length pc2]) c ∧ LockShort c ∧ Dr w b (N + 1 + 16 * (6 - k)) wr ∧ w2.heap.size ≤ wr.heap.size) (fun v _ => (intOf v).toNat)
  case atStart => exact ⟨i, ⟨[], -1, []⟩, _, _, _, _, by omega, rfl, Xc_2.out, Xres_2.out, On_2.out.tight, by simp [LockShort], A2.out.mono (by omega), by omega⟩
  case round =>
    obtain ⟨w20, rfl⟩ : ∃ x : World, x = wr := ⟨_, rfl⟩
    obtain ⟨k, c, ac0, pc0, ac2, pc2, hk, rfl, hx, hy, ho, hv, hA, hz⟩ := hrel
    have Xc_20 := Lib.hid hx; have Xres_20 := Lib.hid hy; have Oc_20 := Lib.hid ho; have VC := Lib.hid hv; have A20 := Lib.hid hA; have S20 := hA.size; have N20 := hz; have HN := Lib.hid (show c.readers.length + c.q.length ≤ 1000 by unfold LockShort at hv; omega); clear hx hy ho hv hA hz
    obtain ⟨cc20_0, cc20_1, cc20_2, fc20_0, fc20_1, fc20_2⟩ := box3 Xc_20.out; have lc20 := heap_lt Xc_20.out
    obtain ⟨cres20_0, cres20_1, cres20_2, fres20_0, fres20_1, fres20_2⟩ := box3 Xres_20.out; have lres20 := heap_lt Xres_20.out
    by_cases hk0 : 0 < k
    · go_wp2_with (fail)
      refine (pickD b (N + 1 + 16 * (6 - k)) 5 w _ A20.out (by omega) (by decide)).mono ?_
      rintro e w21 ⟨y, rfl, hy0, hy1, hd⟩
      have A21 := Lib.hid (Dr.then A20.out hd)
      have Z21 := hd.size
      have N21 : w20.heap.size ≤ w21.heap.size := (by first | with_reducible exact Z21 | (simp only [szA, szS, szD] at Z21; omega))
      clear Z21
      have Xc_21 := Lib.hid (hd.at_ Xc_20.out (by first | omega | (simp only [szA, szS, szD, World.heap_drewN] at * <;> omega)))
      have Xres_21 := Lib.hid (hd.at_ Xres_20.out (by first | omega | (simp only [szA, szS, szD, World.heap_drewN] at * <;> omega)))
      have Oc_21 := Lib.hid (Oc_20.out.past hd.g hlt)
      clear hd
      obtain ⟨cc21_0, cc21_1, cc21_2, fc21_0, fc21_1, fc21_2⟩ := box3 Xc_21.out; have lc21 := heap_lt Xc_21.out
      obtain ⟨cres21_0, cres21_1, cres21_2, fres21_0, fres21_1, fres21_2⟩ := box3 Xres_21.out; have lres21 := heap_lt Xres_21.out
      have S21 : w.heap.size ≤ w21.heap.size := (by omega)
      by_cases hy0e : y = 0
      · subst hy0e
        go_wp2_with (fail)
        obtain ⟨hi_c, HI_c⟩ : ∃ hi, LockOwn w.heap.size hi w21 (.agg #[.slice ac0 c.readers.length pc0, .int .i64 c.writer, .slice ac2 c.q.length pc2]) c := ⟨_, Oc_21.out⟩
        have hN0 : w21.heap.size ≤ w21.heap.size := (by first | omega | (simp only [szA, szS, szD, World.heap_drewN] at * <;> omega))
        refine wp_region_L [⟨0, false, [], fun _ v _ => v = .agg #[.slice ac0 c.readers.length pc0, .int .i64 c.writer, .slice ac2 c.q.length pc2]⟩, ⟨1, false, [], fun _ v _ => v = .pointer (some ⟨b, 0, none⟩)⟩, ⟨2, false, [1], fun _ v _ => ∃ x : Int, v = .int .i64 x ∧ 0 ≤ x ∧ x < 6⟩, ⟨3, false, [0, 1, 2], fun _ v w' => ∃ vr r uy ok, v = .tuple #[vr, uy, .bool ok] ∧ LockOwn w.heap.size w'.heap.size w' vr r ∧ LockShort r⟩, ⟨4, false, [0, 1, 2, 3], fun u v _ => v = u 3⟩, ⟨5, false, [0, 1, 2, 3, 4], fun u v _ => v = tget (u 4) 0⟩, ⟨6, false, [0, 1, 2, 3, 4], fun u v _ => v = tget (u 4) 1⟩, ⟨7, false, [0, 1, 2, 3, 4], fun u v _ => v = tget (u 4) 2⟩, ⟨8, false, [], fun _ v w' => ∃ g, v = .pointer (some ⟨g, 0, none⟩) ∧ w21.heap.size ≤ g ∧ ∃ cs : Array Value, w'.heap[g]? = some (.cells cs 30 (0, 0)) ∧ cs.size = 3⟩, ⟨9, true, [8, 0, 1, 2, 3, 4, 5], fun u _ w' => ∃ g cs, w21.heap.size ≤ g ∧ u 8 = .pointer (some ⟨g, 0, none⟩) ∧ u 5 = .agg cs ∧ w'.heap[g]? = some (.cells cs 30 (0, 0))⟩, ⟨10, false, [0, 1, 2, 3, 4, 6], fun u v _ => v = u 6⟩, ⟨11, false, [0, 1, 2, 3, 4, 7], fun u v _ => v = u 7⟩] [(0, some 23), (1, some 24), (2, some 25), (3, some 26), (4, some 22), (5, some 27), (6, some 28), (7, some 29), (8, some 5), (9, none), (10, some 6), (11, some 7)] (fun f w' => Dr w b (((N + 1 + 16 * (6 - k)) + 1) + (12 - f)) w' ∧ w21.heap.size ≤ w'.heap.size ∧ w'.heap[w1.heap.size]? = some (.cells #[.slice ac0 c.readers.length pc0, .int .i64 c.writer, .slice ac2 c.q.length pc2] 30 (0, 0)) ∧ w'.heap[w.heap.size]? = some (.cells #[.slice none 0 0, .int .i64 0, .slice none 0 0] 30 (0, 0)) ∧ LockOwn w.heap.size hi_c w' (.agg #[.slice ac0 c.readers.length pc0, .int .i64 c.writer, .slice ac2 c.q.length pc2]) c) (fun x w1 w2 => if x = true then BoxW (w21.heap.size) 30 w1 w2 else w1.grownBy w2 (some b)) (by kernel_rfl) (by rfl) (by kernel_rfl) (by kernel_rfl) ⟨Dr.mono A21.out.drew (by omega), hN0, heap_drew Xc_21.out, heap_drew Xres_21.out, HI_c⟩ (GoalsL.cons ?_ (GoalsL.cons ?_ (GoalsL.cons ?_ (GoalsL.cons ?_ (GoalsL.cons ?_ (GoalsL.cons ?_ (GoalsL.cons ?_ (GoalsL.cons ?_ (GoalsL.cons ?_ (GoalsL.cons ?_ (GoalsL.cons ?_ (GoalsL.cons ?_ (GoalsL.nil))))))))))))) ?_
        · refine GoalL.mk (by rfl) (⟨fun _ _ _ _ _ h => h, fun _ _ _ _ _ _ h => h⟩) ?_
          intro f u w1 hf hC hD K hK
          replace hf : f < 12 := hf
          have hA := hC.1; have hN := hC.2.1; have hc := hC.2.2.1; have hres := hC.2.2.2.1; have oc := hC.2.2.2.2; clear hC
          clear hD
          simp only [putL, Act.put, List.setIfInBounds_toArray, List.set_cons_zero, List.set_cons_succ] at hK ⊢
          obtain ⟨cc_0, cc_1, cc_2, fc_0, fc_1, fc_2⟩ := box3 hc
          refine Closed.mk ?_
          go_simp
          exact hK.out _ _ ⟨hA.mono (by omega), hN, hc, hres, oc⟩ (World.grownBy.refl _ _) rfl
        · refine GoalL.mk (by rfl) (⟨fun _ _ _ _ _ h => h, fun _ _ _ _ _ _ h => h⟩) ?_
          intro f u w1 hf hC hD K hK
          replace hf : f < 12 := hf
          have hA := hC.1; have hN := hC.2.1; have hc := hC.2.2.1; have hres := hC.2.2.2.1; have oc := hC.2.2.2.2; clear hC
          clear hD
          simp only [putL, Act.put, List.setIfInBounds_toArray, List.set_cons_zero, List.set_cons_succ] at hK ⊢
          refine Closed.mk ?_
          go_simp
          exact hK.out _ _ ⟨hA.mono (by omega), hN, hc, hres, oc⟩ (World.grownBy.refl _ _) rfl
        · refine GoalL.mk (by rfl) (⟨fun _ _ _ _ _ h => h, fun _ _ _ _ _ _ h => h⟩) ?_
          intro f u w1 hf hC hD K hK
          replace hf : f < 12 := hf
          have hA := hC.1; have hN := hC.2.1; have hc := hC.2.2.1; have hres := hC.2.2.2.1; have oc := hC.2.2.2.2; clear hC
          have d1 := hD.1; clear hD
          have q1 : u 1 = .pointer (some ⟨b, 0, none⟩) := d1
          have e1 := q1; clear q1
          clear d1
          simp only [putL, Act.put, List.setIfInBounds_toArray, List.set_cons_zero, List.set_cons_succ, e1] at hK ⊢
          refine Closed.mk ?_
          go_simp
          refine (pickD b (((N + 1 + 16 * (6 - k)) + 1) + (12 - (f + 1))) 6 w _ hA (by omega) (by decide)).mono ?_
          rintro e w2 ⟨x, rfl, hx0, hx1, hd⟩
          exact hK.out _ _ ⟨(hA.then hd).mono (by omega), Nat.le_trans hN hd.size, (hd.at_ hc (by omega)), (hd.at_ hres (by omega)), (oc.past hd.g hlt)⟩ hd.g ⟨x, rfl, hx0, by omega⟩
        · refine GoalL.mk (by rfl) (⟨fun _ _ _ _ hR ⟨vr, r, uy, ok, h1, h2, h3⟩ => ⟨vr, r, uy, ok, h1, (h2.past hR hlt).mono (Nat.le_refl _) hR.size, h3⟩, fun _ _ _ _ _ hR ⟨vr, r, uy, ok, h1, h2, h3⟩ => ⟨vr, r, uy, ok, h1, (h2.boxW hR (by decide)).mono (Nat.le_refl _) hR.size, h3⟩⟩) ?_
          intro f u w1 hf hC hD K hK
          replace hf : f < 12 := hf
          have hA := hC.1; have hN := hC.2.1; have hc := hC.2.2.1; have hres := hC.2.2.2.1; have oc := hC.2.2.2.2; clear hC
          have d0 := hD.1; have d1 := hD.2.1; have d2 := hD.2.2.1; clear hD
          have q0 : u 0 = .agg #[.slice ac0 c.readers.length pc0, .int .i64 c.writer, .slice ac2 c.q.length pc2] := d0
          have e0 := q0; clear q0
          clear d0
          have q1 : u 1 = .pointer (some ⟨b, 0, none⟩) := d1
          have e1 := q1; clear q1
          clear d1
          have q2 : ∃ x : Int, u 2 = .int .i64 x ∧ 0 ≤ x ∧ x < 6 := d2
          obtain ⟨x2, e2, q2a, q2b⟩ := q2
          clear d2
          simp only [putL, Act.put, List.setIfInBounds_toArray, List.set_cons_zero, List.set_cons_succ, e0, e1, e2] at hK ⊢
          refine Closed.mk ?_
          go_simp
          refine (sUnlock_calls _ c x2 _ oc.row HN.out).mono ?_
          rintro e w2 ⟨vr, vu, r, ok, rfl, ho, hl, hb⟩
          exact hK.out _ _ ⟨(hA.below hb).mono (by omega), Nat.le_trans hN hb.size, (below_at hb hc), (below_at hb hres), (oc.kept hb)⟩ (grown_of_below hb _) ⟨vr, r, vu, ok, rfl, ho.mono hA.size (Nat.le_refl _), hl⟩
        · refine GoalL.mk (by rfl) (⟨fun _ _ _ _ _ h => h, fun _ _ _ _ _ _ h => h⟩) ?_
          intro f u w1 hf hC hD K hK
          replace hf : f < 12 := hf
          have hA := hC.1; have hN := hC.2.1; have hc := hC.2.2.1; have hres := hC.2.2.2.1; have oc := hC.2.2.2.2; clear hC
          have d0 := hD.1; have d1 := hD.2.1; have d2 := hD.2.2.1; have d3 := hD.2.2.2.1; clear hD
          have q0 : u 0 = .agg #[.slice ac0 c.readers.length pc0, .int .i64 c.writer, .slice ac2 c.q.length pc2] := d0
          have e0 := q0; clear q0
          clear d0
          have q1 : u 1 = .pointer (some ⟨b, 0, none⟩) := d1
          have e1 := q1; clear q1
          clear d1
          have q2 : ∃ x : Int, u 2 = .int .i64 x ∧ 0 ≤ x ∧ x < 6 := d2
          obtain ⟨x2, e2, q2a, q2b⟩ := q2
          clear d2
          have q3 : ∃ vr r uy ok, u 3 = .tuple #[vr, uy, .bool ok] ∧ LockOwn w.heap.size w1.heap.size w1 vr r ∧ LockShort r := d3
          obtain ⟨vr3, r3, uy3, ok3, e3, q3a, q3b⟩ := q3
          have w3 := q3a; obtain ⟨aq3_0, pq3_0, aq3_2, pq3_2, rfl, hx3⟩ := q3a; clear hx3
          clear d3
          simp only [putL, Act.put, List.setIfInBounds_toArray, List.set_cons_zero, List.set_cons_succ, e0, e1, e2, e3] at hK ⊢
          refine Closed.mk ?_
          go_simp
          exact hK.out _ _ ⟨hA.mono (by omega), hN, hc, hres, oc⟩ (World.grownBy.refl _ _) (by simp [mask, e3])
        · refine GoalL.mk (by rfl) (⟨fun _ _ _ _ _ h => h, fun _ _ _ _ _ _ h => h⟩) ?_
          intro f u w1 hf hC hD K hK
          replace hf : f < 12 := hf
          have hA := hC.1; have hN := hC.2.1; have hc := hC.2.2.1; have hres := hC.2.2.2.1; have oc := hC.2.2.2.2; clear hC
          have d0 := hD.1; have d1 := hD.2.1; have d2 := hD.2.2.1; have d3 := hD.2.2.2.1; have d4 := hD.2.2.2.2.1; clear hD
          have q0 : u 0 = .agg #[.slice ac0 c.readers.length pc0, .int .i64 c.writer, .slice ac2 c.q.length pc2] := d0
          have e0 := q0; clear q0
          clear d0
          have q1 : u 1 = .pointer (some ⟨b, 0, none⟩) := d1
          have e1 := q1; clear q1
          clear d1
          have q2 : ∃ x : Int, u 2 = .int .i64 x ∧ 0 ≤ x ∧ x < 6 := d2
          obtain ⟨x2, e2, q2a, q2b⟩ := q2
          clear d2
          have q3 : ∃ vr r uy ok, u 3 = .tuple #[vr, uy, .bool ok] ∧ LockOwn w.heap.size w1.heap.size w1 vr r ∧ LockShort r := d3
          obtain ⟨vr3, r3, uy3, ok3, e3, q3a, q3b⟩ := q3
          have w3 := q3a; obtain ⟨aq3_0, pq3_0, aq3_2, pq3_2, rfl, hx3⟩ := q3a; clear hx3
          clear d3
          have q4 : u 4 = u 3 := d4
          have e4 := q4; clear q4
          rw [e3] at e4
          clear d4
          simp only [putL, Act.put, List.setIfInBounds_toArray, List.set_cons_zero, List.set_cons_succ, e0, e1, e2, e3, e4] at hK ⊢
          refine Closed.mk ?_
          go_simp
          exact hK.out _ _ ⟨hA.mono (by omega), hN, hc, hres, oc⟩ (World.grownBy.refl _ _) (by simp [mask, tget, e4])
        · refine GoalL.mk (by rfl) (⟨fun _ _ _ _ _ h => h, fun _ _ _ _ _ _ h => h⟩) ?_
          intro f u w1 hf hC hD K hK
          replace hf : f < 12 := hf
          have hA := hC.1; have hN := hC.2.1; have hc := hC.2.2.1; have hres := hC.2.2.2.1; have oc := hC.2.2.2.2; clear hC
          have d0 := hD.1; have d1 := hD.2.1; have d2 := hD.2.2.1; have d3 := hD.2.2.2.1; have d4 := hD.2.2.2.2.1; clear hD
          have q0 : u 0 = .agg #[.slice ac0 c.readers.length pc0, .int .i64 c.writer, .slice ac2 c.q.length pc2] := d0
          have e0 := q0; clear q0
          clear d0
          have q1 : u 1 = .pointer (some ⟨b, 0, none⟩) := d1
          have e1 := q1; clear q1
          clear d1
          have q2 : ∃ x : Int, u 2 = .int .i64 x ∧ 0 ≤ x ∧ x < 6 := d2
          obtain ⟨x2, e2, q2a, q2b⟩ := q2
          clear d2
          have q3 : ∃ vr r uy ok, u 3 = .tuple #[vr, uy, .bool ok] ∧ LockOwn w.heap.size w1.heap.size w1 vr r ∧ LockShort r := d3
          obtain ⟨vr3, r3, uy3, ok3, e3, q3a, q3b⟩ := q3
          have w3 := q3a; obtain ⟨aq3_0, pq3_0, aq3_2, pq3_2, rfl, hx3⟩ := q3a; clear hx3
          clear d3
          have q4 : u 4 = u 3 := d4
          have e4 := q4; clear q4
          rw [e3] at e4
          clear d4
          simp only [putL, Act.put, List.setIfInBounds_toArray, List.set_cons_zero, List.set_cons_succ, e0, e1, e2, e3, e4] at hK ⊢
          refine Closed.mk ?_
          go_simp
          exact hK.out _ _ ⟨hA.mono (by omega), hN, hc, hres, oc⟩ (World.grownBy.refl _ _) (by simp [mask, tget, e4])
        · refine GoalL.mk (by rfl) (⟨fun _ _ _ _ _ h => h, fun _ _ _ _ _ _ h => h⟩) ?_
          intro f u w1 hf hC hD K hK
          replace hf : f < 12 := hf
          have hA := hC.1; have hN := hC.2.1; have hc := hC.2.2.1; have hres := hC.2.2.2.1; have oc := hC.2.2.2.2; clear hC
          have d0 := hD.1; have d1 := hD.2.1; have d2 := hD.2.2.1; have d3 := hD.2.2.2.1; have d4 := hD.2.2.2.2.1; clear hD
          have q0 : u 0 = .agg #[.slice ac0 c.readers.length pc0, .int .i64 c.writer, .slice ac2 c.q.length pc2] := d0
          have e0 := q0; clear q0
          clear d0
          have q1 : u 1 = .pointer (some ⟨b, 0, none⟩) := d1
          have e1 := q1; clear q1
          clear d1
          have q2 : ∃ x : Int, u 2 = .int .i64 x ∧ 0 ≤ x ∧ x < 6 := d2
          obtain ⟨x2, e2, q2a, q2b⟩ := q2
          clear d2
          have q3 : ∃ vr r uy ok, u 3 = .tuple #[vr, uy, .bool ok] ∧ LockOwn w.heap.size w1.heap.size w1 vr r ∧ LockShort r := d3
          obtain ⟨vr3, r3, uy3, ok3, e3, q3a, q3b⟩ := q3
          have w3 := q3a; obtain ⟨aq3_0, pq3_0, aq3_2, pq3_2, rfl, hx3⟩ := q3a; clear hx3
          clear d3
          have q4 : u 4 = u 3 := d4
          have e4 := q4; clear q4
          rw [e3] at e4
          clear d4
          simp only [putL, Act.put, List.setIfInBounds_toArray, List.set_cons_zero, List.set_cons_succ, e0, e1, e2, e3, e4] at hK ⊢
          refine Closed.mk ?_
          go_simp
          exact hK.out _ _ ⟨hA.mono (by omega), hN, hc, hres, oc⟩ (World.grownBy.refl _ _) (by simp [mask, tget, e4])
        · refine GoalL.mk (by rfl) (⟨fun _ _ _ _ hR ⟨g, h1, h2, cs, h3, h4⟩ => ⟨g, h1, h2, cs, grown_at hR h3 (by omega), h4⟩, fun _ _ _ _ _ hR ⟨g, h1, h2, cs, h3, h4⟩ => (boxW_shape h3 hR).elim fun cs' h => ⟨g, h1, h2, cs', h.1, by rw [h.2, h4]⟩⟩) ?_
          intro f u w1 hf hC hD K hK
          replace hf : f < 12 := hf
          have hA := hC.1; have hN := hC.2.1; have hc := hC.2.2.1; have hres := hC.2.2.2.1; have oc := hC.2.2.2.2; clear hC
          clear hD
          simp only [putL, Act.put, List.setIfInBounds_toArray, List.set_cons_zero, List.set_cons_succ] at hK ⊢
          refine Closed.mk ?_
          go_simp
          exact hK.out _ _ ⟨(hA.alloc _).mono (by omega), Nat.le_trans hN (alloc_le _ _), (heap_up hc), (heap_up hres), (oc.alloc _)⟩ (World.grownBy_alloc _ _ _) ⟨_, rfl, hN, _, heap_at _ _, rfl⟩
        · refine GoalL.mk (by rfl) (⟨fun u v w w' hR ⟨g, cs, h0, h1, h2, h3⟩ => ⟨g, cs, h0, h1, h2, grown_at hR h3 (by have := hlt; omega)⟩, fun h => by cases h⟩) ?_
          intro f u w1 hf hC hD K hK
          replace hf : f < 12 := hf
          have hA := hC.1; have hN := hC.2.1; have hc := hC.2.2.1; have hres := hC.2.2.2.1; have oc := hC.2.2.2.2; clear hC
          have d8 := hD.1; have d0 := hD.2.1; have d1 := hD.2.2.1; have d2 := hD.2.2.2.1; have d3 := hD.2.2.2.2.1; have d4 := hD.2.2.2.2.2.1; have d5 := hD.2.2.2.2.2.2.1; clear hD
          have q8 : ∃ g, u 8 = .pointer (some ⟨g, 0, none⟩) ∧ w21.heap.size ≤ g ∧ ∃ cs : Array Value, w1.heap[g]? = some (.cells cs 30 (0, 0)) ∧ cs.size = 3 := d8
          obtain ⟨g8, e8, q8a, cs8, q8b, q8c⟩ := q8
          clear d8
          have q0 : u 0 = .agg #[.slice ac0 c.readers.length pc0, .int .i64 c.writer, .slice ac2 c.q.length pc2] := d0
          have e0 := q0; clear q0
          clear d0
          have q1 : u 1 = .pointer (some ⟨b, 0, none⟩) := d1
          have e1 := q1; clear q1
          clear d1
          have q2 : ∃ x : Int, u 2 = .int .i64 x ∧ 0 ≤ x ∧ x < 6 := d2
          obtain ⟨x2, e2, q2a, q2b⟩ := q2
          clear d2
          have q3 : ∃ vr r uy ok, u 3 = .tuple #[vr, uy, .bool ok] ∧ LockOwn w.heap.size w1.heap.size w1 vr r ∧ LockShort r := d3
          obtain ⟨vr3, r3, uy3, ok3, e3, q3a, q3b⟩ := q3
          have w3 := q3a; obtain ⟨aq3_0, pq3_0, aq3_2, pq3_2, rfl, hx3⟩ := q3a; clear hx3
          clear d3
          have q4 : u 4 = u 3 := d4
          have e4 := q4; clear q4
          rw [e3] at e4
          clear d4
          have q5 : u 5 = tget (u 4) 0 := d5
          have e5 := q5; clear q5
          rw [e4] at e5
          simp only [tget] at e5
          replace e5 : u 5 = (.agg #[.slice aq3_0 r3.readers.length pq3_0, .int .i64 r3.writer, .slice aq3_2 r3.q.length pq3_2]) := e5
          clear d5
          simp only [putL, Act.put, List.setIfInBounds_toArray, List.set_cons_zero, List.set_cons_succ, e8, e0, e1, e2, e3, e4, e5] at hK ⊢
          obtain ⟨z0, z1, z2, rfl⟩ := cells3 q8c
          obtain ⟨c9_0, c9_1, c9_2, f9_0, f9_1, f9_2⟩ := box3 q8b
          refine Closed.mk ?_
          go_simp
          exact hK.out undef _ ⟨(((hA.set (a := ⟨g8, 0, none⟩) (show w.heap.size ≤ g8 by omega) (.slice aq3_0 r3.readers.length pq3_0)).set (a := ⟨g8, 1, none⟩) (show w.heap.size ≤ g8 by omega) (.int .i64 r3.writer)).set (a := ⟨g8, 2, none⟩) (show w.heap.size ≤ g8 by omega) (.slice aq3_2 r3.q.length pq3_2)).mono (by omega), (by simp only [szS]; exact hN), (set_off (a := ⟨g8, 2, none⟩) (set_off (a := ⟨g8, 1, none⟩) (set_off (a := ⟨g8, 0, none⟩) hc (show g8 ≠ _ by omega) (.slice aq3_0 r3.readers.length pq3_0)) (show g8 ≠ _ by omega) (.int .i64 r3.writer)) (show g8 ≠ _ by omega) (.slice aq3_2 r3.q.length pq3_2)), (set_off (a := ⟨g8, 2, none⟩) (set_off (a := ⟨g8, 1, none⟩) (set_off (a := ⟨g8, 0, none⟩) hres (show g8 ≠ _ by omega) (.slice aq3_0 r3.readers.length pq3_0)) (show g8 ≠ _ by omega) (.int .i64 r3.writer)) (show g8 ≠ _ by omega) (.slice aq3_2 r3.q.length pq3_2)), (((oc.setB g8 0 q8b (by decide) (.slice aq3_0 r3.readers.length pq3_0)).setB g8 1 (set_at (a := ⟨g8, 0, none⟩) q8b rfl rfl (.slice aq3_0 r3.readers.length pq3_0)) (by decide) (.int .i64 r3.writer)).setB g8 2 (set_at (a := ⟨g8, 1, none⟩) (set_at (a := ⟨g8, 0, none⟩) q8b rfl rfl (.slice aq3_0 r3.readers.length pq3_0)) rfl rfl (.int .i64 r3.writer)) (by decide) (.slice aq3_2 r3.q.length pq3_2))⟩ ⟨g8, _, _, q8a, q8b, (set_at (a := ⟨g8, 2, none⟩) (set_at (a := ⟨g8, 1, none⟩) (set_at (a := ⟨g8, 0, none⟩) q8b rfl rfl (.slice aq3_0 r3.readers.length pq3_0)) rfl rfl (.int .i64 r3.writer)) rfl rfl (.slice aq3_2 r3.q.length pq3_2)), rfl, (grown_set (a := ⟨g8, 2, none⟩) (grown_set (a := ⟨g8, 1, none⟩) (grown_set (a := ⟨g8, 0, none⟩) (World.grownBy.refl _ _) rfl (.slice aq3_0 r3.readers.length pq3_0)) rfl (.int .i64 r3.writer)) rfl (.slice aq3_2 r3.q.length pq3_2))⟩ ⟨g8, _, q8a, (by simp [mask, e8]), (by first | (simp [mask, e5]; done) | (simp [mask, e5]; rfl)), (set_at (a := ⟨g8, 2, none⟩) (set_at (a := ⟨g8, 1, none⟩) (set_at (a := ⟨g8, 0, none⟩) q8b rfl rfl (.slice aq3_0 r3.readers.length pq3_0)) rfl rfl (.int .i64 r3.writer)) rfl rfl (.slice aq3_2 r3.q.length pq3_2))⟩
        · refine GoalL.mk (by rfl) (⟨fun _ _ _ _ _ h => h, fun _ _ _ _ _ _ h => h⟩) ?_
          intro f u w1 hf hC hD K hK
          replace hf : f < 12 := hf
          have hA := hC.1; have hN := hC.2.1; have hc := hC.2.2.1; have hres := hC.2.2.2.1; have oc := hC.2.2.2.2; clear hC
          have d0 := hD.1; have d1 := hD.2.1; have d2 := hD.2.2.1; have d3 := hD.2.2.2.1; have d4 := hD.2.2.2.2.1; have d6 := hD.2.2.2.2.2.1; clear hD
          have q0 : u 0 = .agg #[.slice ac0 c.readers.length pc0, .int .i64 c.writer, .slice ac2 c.q.length pc2] := d0
          have e0 := q0; clear q0
          clear d0
          have q1 : u 1 = .pointer (some ⟨b, 0, none⟩) := d1
          have e1 := q1; clear q1
          clear d1
          have q2 : ∃ x : Int, u 2 = .int .i64 x ∧ 0 ≤ x ∧ x < 6 := d2
          obtain ⟨x2, e2, q2a, q2b⟩ := q2
          clear d2
          have q3 : ∃ vr r uy ok, u 3 = .tuple #[vr, uy, .bool ok] ∧ LockOwn w.heap.size w1.heap.size w1 vr r ∧ LockShort r := d3
          obtain ⟨vr3, r3, uy3, ok3, e3, q3a, q3b⟩ := q3
          have w3 := q3a; obtain ⟨aq3_0, pq3_0, aq3_2, pq3_2, rfl, hx3⟩ := q3a; clear hx3
          clear d3
          have q4 : u 4 = u 3 := d4
          have e4 := q4; clear q4
          rw [e3] at e4
          clear d4
          have q6 : u 6 = tget (u 4) 1 := d6
          have e6 := q6; clear q6
          rw [e4] at e6
          simp only [tget] at e6
          replace e6 : u 6 = uy3 := e6
          clear d6
          simp only [putL, Act.put, List.setIfInBounds_toArray, List.set_cons_zero, List.set_cons_succ, e0, e1, e2, e3, e4, e6] at hK ⊢
          refine Closed.mk ?_
          go_simp
          exact hK.out _ _ ⟨hA.mono (by omega), hN, hc, hres, oc⟩ (World.grownBy.refl _ _) (by simp [mask, e6])
        · refine GoalL.mk (by rfl) (⟨fun _ _ _ _ _ h => h, fun _ _ _ _ _ _ h => h⟩) ?_
          intro f u w1 hf hC hD K hK
          replace hf : f < 12 := hf
          have hA := hC.1; have hN := hC.2.1; have hc := hC.2.2.1; have hres := hC.2.2.2.1; have oc := hC.2.2.2.2; clear hC
          have d0 := hD.1; have d1 := hD.2.1; have d2 := hD.2.2.1; have d3 := hD.2.2.2.1; have d4 := hD.2.2.2.2.1; have d7 := hD.2.2.2.2.2.1; clear hD
          have q0 : u 0 = .agg #[.slice ac0 c.readers.length pc0, .int .i64 c.writer, .slice ac2 c.q.length pc2] := d0
          have e0 := q0; clear q0
          clear d0
          have q1 : u 1 = .pointer (some ⟨b, 0, none⟩) := d1
          have e1 := q1; clear q1
          clear d1
          have q2 : ∃ x : Int, u 2 = .int .i64 x ∧ 0 ≤ x ∧ x < 6 := d2
          obtain ⟨x2, e2, q2a, q2b⟩ := q2
          clear d2
          have q3 : ∃ vr r uy ok, u 3 = .tuple #[vr, uy, .bool ok] ∧ LockOwn w.heap.size w1.heap.size w1 vr r ∧ LockShort r := d3
          obtain ⟨vr3, r3, uy3, ok3, e3, q3a, q3b⟩ := q3
          have w3 := q3a; obtain ⟨aq3_0, pq3_0, aq3_2, pq3_2, rfl, hx3⟩ := q3a; clear hx3
          clear d3
          have q4 : u 4 = u 3 := d4
          have e4 := q4; clear q4
          rw [e3] at e4
          clear d4
          have q7 : u 7 = tget (u 4) 2 := d7
          have e7 := q7; clear q7
          rw [e4] at e7
          simp only [tget] at e7
          replace e7 : u 7 = .bool ok3 := e7
          clear d7
          simp only [putL, Act.put, List.setIfInBounds_toArray, List.set_cons_zero, List.set_cons_succ, e0, e1, e2, e3, e4, e7] at hK ⊢
          refine Closed.mk ?_
          go_simp
          exact hK.out _ _ ⟨hA.mono (by omega), hN, hc, hres, oc⟩ (World.grownBy.refl _ _) (by simp [mask, e7])
        intro u w22 hC hD
        have hA := hC.1; have hN := hC.2.1; have hc := hC.2.2.1; have hres := hC.2.2.2.1; have oc := hC.2.2.2.2; clear hC
        have d0 := hD.1; have d1 := hD.2.1; have d2 := hD.2.2.1; have d3 := hD.2.2.2.1; have d4 := hD.2.2.2.2.1; have d5 := hD.2.2.2.2.2.1; have d6 := hD.2.2.2.2.2.2.1; have d7 := hD.2.2.2.2.2.2.2.1; have d8 := hD.2.2.2.2.2.2.2.2.1; have d9 := hD.2.2.2.2.2.2.2.2.2.1; have d10 := hD.2.2.2.2.2.2.2.2.2.2.1; have d11 := hD.2.2.2.2.2.2.2.2.2.2.2.1; clear hD
        have q0 : u 0 = .agg #[.slice ac0 c.readers.length pc0, .int .i64 c.writer, .slice ac2 c.q.length pc2] := d0
        have e0 := q0; clear q0
        clear d0
        have q1 : u 1 = .pointer (some ⟨b, 0, none⟩) := d1
        have e1 := q1; clear q1
        clear d1
        have q2 : ∃ x : Int, u 2 = .int .i64 x ∧ 0 ≤ x ∧ x < 6 := d2
        obtain ⟨x2, e2, q2a, q2b⟩ := q2
        clear d2
        have q3 : ∃ vr r uy ok, u 3 = .tuple #[vr, uy, .bool ok] ∧ LockOwn w.heap.size w22.heap.size w22 vr r ∧ LockShort r := d3
        obtain ⟨vr3, r3, uy3, ok3, e3, q3a, q3b⟩ := q3
        have w3 := q3a; obtain ⟨aq3_0, pq3_0, aq3_2, pq3_2, rfl, hx3⟩ := q3a; clear hx3
        clear d3
        have q4 : u 4 = u 3 := d4
        have e4 := q4; clear q4
        rw [e3] at e4
        clear d4
        have q5 : u 5 = tget (u 4) 0 := d5
        have e5 := q5; clear q5
        rw [e4] at e5
        simp only [tget] at e5
        replace e5 : u 5 = (.agg #[.slice aq3_0 r3.readers.length pq3_0, .int .i64 r3.writer, .slice aq3_2 r3.q.length pq3_2]) := e5
        clear d5
        have q6 : u 6 = tget (u 4) 1 := d6
        have e6 := q6; clear q6
        rw [e4] at e6
        simp only [tget] at e6
        replace e6 : u 6 = uy3 := e6
        clear d6
        have q7 : u 7 = tget (u 4) 2 := d7
        have e7 := q7; clear q7
        rw [e4] at e7
        simp only [tget] at e7
        replace e7 : u 7 = .bool ok3 := e7
        clear d7
        have q8 : ∃ g, u 8 = .pointer (some ⟨g, 0, none⟩) ∧ w21.heap.size ≤ g ∧ ∃ cs : Array Value, w22.heap[g]? = some (.cells cs 30 (0, 0)) ∧ cs.size = 3 := d8
        obtain ⟨g8, e8, q8a, cs8, q8b, q8c⟩ := q8
        clear d8
        have q9 : ∃ g cs, w21.heap.size ≤ g ∧ u 8 = .pointer (some ⟨g, 0, none⟩) ∧ u 5 = .agg cs ∧ w22.heap[g]? = some (.cells cs 30 (0, 0)) := d9
        clear d9
        have q10 : u 10 = u 6 := d10
        have e10 := q10; clear q10
        rw [e6] at e10
        clear d10
        have q11 : u 11 = u 7 := d11
        have e11 := q11; clear q11
        rw [e7] at e11
        clear d11
        replace hA : Dr w b (((N + 1 + 16 * (6 - k)) + 1) + (12 - (12 - 12))) w22 := hA
        have A22 : Hid (Dr w b ((N + 1 + 16 * (6 - k)) + 13) w22) := hA.mono (by omega)
        have N22 := hN; have S22 := hA.size
        have Xc_22 := Lib.hid hc; clear hc
        have Xres_22 := Lib.hid hres; clear hres
        have Oc_22 := Lib.hid oc; clear oc
        obtain ⟨gg, cc, hg0, hg1, hg2, hg3⟩ := q9
        clear hg0; have hg4 := same_tuple e8 hg1; have hg5 := same_agg e5 hg2
        rw [hg4, hg5] at hg3
        clear hg1 hg2 hg4 hg5
        have Xnew_22 := Lib.hid hg3; clear hg3 q8b q8c
        have Oq3__22 := Lib.hid w3; clear w3
        have HV3 := Lib.hid q3b; clear q3b
        obtain ⟨cc22_0, cc22_1, cc22_2, fc22_0, fc22_1, fc22_2⟩ := box3 Xc_22.out; have lc22 := heap_lt Xc_22.out
        obtain ⟨cres22_0, cres22_1, cres22_2, fres22_0, fres22_1, fres22_2⟩ := box3 Xres_22.out; have lres22 := heap_lt Xres_22.out
        obtain ⟨cnew22_0, cnew22_1, cnew22_2, fnew22_0, fnew22_1, fnew22_2⟩ := box3 Xnew_22.out; have lnew22 := heap_lt Xnew_22.out
        clear hA hN
        simp only [putL, Act.put, List.setIfInBounds_toArray, List.set_cons_zero, List.set_cons_succ, e0, e1, e2, e3, e4, e5, e6, e7, e8, e10, e11]
        refine Closed.mk ?_
        refine wpAnyH_done (by kernel_rfl) ?_ _
        cases ok3
        · go_wp2
          go_roundw
          case rel => exact ⟨k - 1, c, _, _, _, _, by omega, by go_num, Xc_22.out, Xres_22.out, Oc_22.out.tight, VC.out, A22.out.mono (by omega), by first | omega | (simp only [szA, szS, szD]; omega)⟩
          case measure => simp [intOf]; omega
        · go_wp2
          go_roundw
          case rel => exact ⟨k - 1, r3, _, _, _, _, by omega, by go_num, (set_at (a := ⟨w1.heap.size, 2, none⟩) (set_at (a := ⟨w1.heap.size, 1, none⟩) (set_at (a := ⟨w1.heap.size, 0, none⟩) Xc_22.out rfl rfl (.slice aq3_0 r3.readers.length pq3_0)) rfl rfl (.int .i64 r3.writer)) rfl rfl (.slice aq3_2 r3.q.length pq3_2)), (set_off (a := ⟨w1.heap.size, 2, none⟩) (set_off (a := ⟨w1.heap.size, 1, none⟩) (set_off (a := ⟨w1.heap.size, 0, none⟩) Xres_22.out (by first | omega | (simp only [szA, szS, szD, World.heap_drewN] at * <;> omega)) (.slice aq3_0 r3.readers.length pq3_0)) (by first | omega | (simp only [szA, szS, szD, World.heap_drewN] at * <;> omega)) (.int .i64 r3.writer)) (by first | omega | (simp only [szA, szS, szD, World.heap_drewN] at * <;> omega)) (.slice aq3_2 r3.q.length pq3_2)), (((Oq3__22.out.setB (w1.heap.size) 0 Xc_22.out (by decide) (.slice aq3_0 r3.readers.length pq3_0)).setB (w1.heap.size) 1 (set_at (a := ⟨w1.heap.size, 0, none⟩) Xc_22.out rfl rfl (.slice aq3_0 r3.readers.length pq3_0)) (by decide) (.int .i64 r3.writer)).setB (w1.heap.size) 2 (set_at (a := ⟨w1.heap.size, 1, none⟩) (set_at (a := ⟨w1.heap.size, 0, none⟩) Xc_22.out rfl rfl (.slice aq3_0 r3.readers.length pq3_0)) rfl rfl (.int .i64 r3.writer)) (by decide) (.slice aq3_2 r3.q.length pq3_2)).tight, HV3.out, (((A22.out.set (a := ⟨w1.heap.size, 0, none⟩) (by first | omega | (simp only [szA, szS, szD, World.heap_drewN] at * <;> omega)) (.slice aq3_0 r3.readers.length pq3_0)).set (a := ⟨w1.heap.size, 1, none⟩) (by first | omega | (simp only [szA, szS, szD, World.heap_drewN] at * <;> omega)) (.int .i64 r3.writer)).set (a := ⟨w1.heap.size, 2, none⟩) (by first | omega | (simp only [szA, szS, szD, World.heap_drewN] at * <;> omega)) (.slice aq3_2 r3.q.length pq3_2)).mono (by omega), by first | omega | (simp only [szA, szS, szD]; omega)⟩
          case measure => simp [intOf]; omega
      · have e2 : (y == 0) = false := beq_false_of_ne hy0e
        have e3 := decide_eq_false hy0e
        go_wp2_with (fail)
        obtain ⟨hi_c, HI_c⟩ : ∃ hi, LockOwn w.heap.size hi w21 (.agg #[.slice ac0 c.readers.length pc0, .int .i64 c.writer, .slice ac2 c.q.length pc2]) c := ⟨_, Oc_21.out⟩
        have hN0 : w21.heap.size ≤ w21.heap.size := (by first | omega | (simp only [szA, szS, szD, World.heap_drewN] at * <;> omega))
        refine wp_region_L [⟨0, false, [], fun _ v _ => v = .agg #[.slice ac0 c.readers.length pc0, .int .i64 c.writer, .slice ac2 c.q.length pc2]⟩, ⟨1, false, [], fun _ v _ => v = .pointer (some ⟨b, 0, none⟩)⟩, ⟨2, false, [1], fun _ v _ => ∃ x : Int, v = .int .i64 x ∧ 0 ≤ x ∧ x < 6⟩, ⟨3, false, [], fun _ v _ => v = .pointer (some ⟨b, 0, none⟩)⟩, ⟨4, false, [3], fun _ v _ => ∃ x : Int, v = .int .i64 x ∧ 0 ≤ x ∧ x < 2⟩, ⟨5, false, [3, 4], fun _ v _ => ∃ bb : Bool, v = .bool bb⟩, ⟨6, false, [0, 1, 2, 3, 4, 5], fun _ v w' => ∃ vr r sn ok, v = .tuple #[vr, .bool sn, .bool ok] ∧ LockOwn w.heap.size w'.heap.size w' vr r ∧ LockShort r⟩, ⟨7, false, [0, 1, 2, 3, 4, 5, 6], fun u v _ => v = u 6⟩, ⟨8, false, [0, 1, 2, 3, 4, 5, 6, 7], fun u v _ => v = tget (u 7) 0⟩, ⟨9, false, [0, 1, 2, 3, 4, 5, 6, 7], fun u v _ => v = tget (u 7) 1⟩, ⟨10, false, [0, 1, 2, 3, 4, 5, 6, 7], fun u v _ => v = tget (u 7) 2⟩, ⟨11, false, [], fun _ v w' => ∃ g, v = .pointer (some ⟨g, 0, none⟩) ∧ w21.heap.size ≤ g ∧ ∃ cs : Array Value, w'.heap[g]? = some (.cells cs 30 (0, 0)) ∧ cs.size = 3⟩, ⟨12, true, [11, 0, 1, 2, 3, 4, 5, 6, 7, 8], fun u _ w' => ∃ g cs, w21.heap.size ≤ g ∧ u 11 = .pointer (some ⟨g, 0, none⟩) ∧ u 8 = .agg cs ∧ w'.heap[g]? = some (.cells cs 30 (0, 0))⟩, ⟨13, false, [0, 1, 2, 3, 4, 5, 6, 7, 9], fun u v _ => v = u 9⟩, ⟨14, false, [0, 1, 2, 3, 4, 5, 6, 7, 10], fun u v _ => v = u 10⟩] [(0, some 33), (1, some 34), (2, some 35), (3, some 36), (4, some 37), (5, some 38), (6, some 39), (7, some 32), (8, some 40), (9, some 41), (10, some 42), (11, some 8), (12, none), (13, some 9), (14, some 10)] (fun f w' => Dr w b (((N + 1 + 16 * (6 - k)) + 1) + (15 - f)) w' ∧ w21.heap.size ≤ w'.heap.size ∧ w'.heap[w1.heap.size]? = some (.cells #[.slice ac0 c.readers.length pc0, .int .i64 c.writer, .slice ac2 c.q.length pc2] 30 (0, 0)) ∧ w'.heap[w.heap.size]? = some (.cells #[.slice none 0 0, .int .i64 0, .slice none 0 0] 30 (0, 0)) ∧ LockOwn w.heap.size hi_c w' (.agg #[.slice ac0 c.readers.length pc0, .int .i64 c.writer, .slice ac2 c.q.length pc2]) c) (fun x w1 w2 => if x = true then BoxW (w21.heap.size) 30 w1 w2 else w1.grownBy w2 (some b)) (by kernel_rfl) (by rfl) (by kernel_rfl) (by kernel_rfl) ⟨Dr.mono A21.out.drew (by omega), hN0, heap_drew Xc_21.out, heap_drew Xres_21.out, HI_c⟩ (GoalsL.cons ?_ (GoalsL.cons ?_ (GoalsL.cons ?_ (GoalsL.cons ?_ (GoalsL.cons ?_ (GoalsL.cons ?_ (GoalsL.cons ?_ (GoalsL.cons ?_ (GoalsL.cons ?_ (GoalsL.cons ?_ (GoalsL.cons ?_ (GoalsL.cons ?_ (GoalsL.cons ?_ (GoalsL.cons ?_ (GoalsL.cons ?_ (GoalsL.nil)))))))))))))))) ?_
        · refine GoalL.mk (by rfl) (⟨fun _ _ _ _ _ h => h, fun _ _ _ _ _ _ h => h⟩) ?_
          intro f u w1 hf hC hD K hK
          replace hf : f < 15 := hf
          have hA := hC.1; have hN := hC.2.1; have hc := hC.2.2.1; have hres := hC.2.2.2.1; have oc := hC.2.2.2.2; clear hC
          clear hD
          simp only [putL, Act.put, List.setIfInBounds_toArray, List.set_cons_zero, List.set_cons_succ] at hK ⊢
          obtain ⟨cc_0, cc_1, cc_2, fc_0, fc_1, fc_2⟩ := box3 hc
          refine Closed.mk ?_
          go_simp
          exact hK.out _ _ ⟨hA.mono (by omega), hN, hc, hres, oc⟩ (World.grownBy.refl _ _) rfl
        · refine GoalL.mk (by rfl) (⟨fun _ _ _ _ _ h => h, fun _ _ _ _ _ _ h => h⟩) ?_
          intro f u w1 hf hC hD K hK
          replace hf : f < 15 := hf
          have hA := hC.1; have hN := hC.2.1; have hc := hC.2.2.1; have hres := hC.2.2.2.1; have oc := hC.2.2.2.2; clear hC
          clear hD
          simp only [putL, Act.put, List.setIfInBounds_toArray, List.set_cons_zero, List.set_cons_succ] at hK ⊢
          refine Closed.mk ?_
          go_simp
          exact hK.out _ _ ⟨hA.mono (by omega), hN, hc, hres, oc⟩ (World.grownBy.refl _ _) rfl
        · refine GoalL.mk (by rfl) (⟨fun _ _ _ _ _ h => h, fun _ _ _ _ _ _ h => h⟩) ?_
          intro f u w1 hf hC hD K hK
          replace hf : f < 15 := hf
          have hA := hC.1; have hN := hC.2.1; have hc := hC.2.2.1; have hres := hC.2.2.2.1; have oc := hC.2.2.2.2; clear hC
          have d1 := hD.1; clear hD
          have q1 : u 1 = .pointer (some ⟨b, 0, none⟩) := d1
          have e1 := q1; clear q1
          clear d1
          simp only [putL, Act.put, List.setIfInBounds_toArray, List.set_cons_zero, List.set_cons_succ, e1] at hK ⊢
          refine Closed.mk ?_
          go_simp
          refine (pickD b (((N + 1 + 16 * (6 - k)) + 1) + (15 - (f + 1))) 6 w _ hA (by omega) (by decide)).mono ?_
          rintro e w2 ⟨x, rfl, hx0, hx1, hd⟩
          exact hK.out _ _ ⟨(hA.then hd).mono (by omega), Nat.le_trans hN hd.size, (hd.at_ hc (by omega)), (hd.at_ hres (by omega)), (oc.past hd.g hlt)⟩ hd.g ⟨x, rfl, hx0, by omega⟩
        · refine GoalL.mk (by rfl) (⟨fun _ _ _ _ _ h => h, fun _ _ _ _ _ _ h => h⟩) ?_
          intro f u w1 hf hC hD K hK
          replace hf : f < 15 := hf
          have hA := hC.1; have hN := hC.2.1; have hc := hC.2.2.1; have hres := hC.2.2.2.1; have oc := hC.2.2.2.2; clear hC
          clear hD
          simp only [putL, Act.put, List.setIfInBounds_toArray, List.set_cons_zero, List.set_cons_succ] at hK ⊢
          refine Closed.mk ?_
          go_simp
          exact hK.out _ _ ⟨hA.mono (by omega), hN, hc, hres, oc⟩ (World.grownBy.refl _ _) rfl
        · refine GoalL.mk (by rfl) (⟨fun _ _ _ _ _ h => h, fun _ _ _ _ _ _ h => h⟩) ?_
          intro f u w1 hf hC hD K hK
          replace hf : f < 15 := hf
          have hA := hC.1; have hN := hC.2.1; have hc := hC.2.2.1; have hres := hC.2.2.2.1; have oc := hC.2.2.2.2; clear hC
          have d3 := hD.1; clear hD
          have q3 : u 3 = .pointer (some ⟨b, 0, none⟩) := d3
          have e3 := q3; clear q3
          clear d3
          simp only [putL, Act.put, List.setIfInBounds_toArray, List.set_cons_zero, List.set_cons_succ, e3] at hK ⊢
          refine Closed.mk ?_
          go_simp
          refine (pickD b (((N + 1 + 16 * (6 - k)) + 1) + (15 - (f + 1))) 2 w _ hA (by omega) (by decide)).mono ?_
          rintro e w2 ⟨x, rfl, hx0, hx1, hd⟩
          exact hK.out _ _ ⟨(hA.then hd).mono (by omega), Nat.le_trans hN hd.size, (hd.at_ hc (by omega)), (hd.at_ hres (by omega)), (oc.past hd.g hlt)⟩ hd.g ⟨x, rfl, hx0, by omega⟩
        · refine GoalL.mk (by rfl) (⟨fun _ _ _ _ _ h => h, fun _ _ _ _ _ _ h => h⟩) ?_
          intro f u w1 hf hC hD K hK
          replace hf : f < 15 := hf
          have hA := hC.1; have hN := hC.2.1; have hc := hC.2.2.1; have hres := hC.2.2.2.1; have oc := hC.2.2.2.2; clear hC
          have d3 := hD.1; have d4 := hD.2.1; clear hD
          have q3 : u 3 = .pointer (some ⟨b, 0, none⟩) := d3
          have e3 := q3; clear q3
          clear d3
          have q4 : ∃ x : Int, u 4 = .int .i64 x ∧ 0 ≤ x ∧ x < 2 := d4
          obtain ⟨x4, e4, q4a, q4b⟩ := q4
          clear d4
          simp only [putL, Act.put, List.setIfInBounds_toArray, List.set_cons_zero, List.set_cons_succ, e3, e4] at hK ⊢
          refine Closed.mk ?_
          go_simp
          exact hK.out _ _ ⟨hA.mono (by omega), hN, hc, hres, oc⟩ (World.grownBy.refl _ _) ⟨_, rfl⟩
        · refine GoalL.mk (by rfl) (⟨fun _ _ _ _ hR ⟨vr, r, sn, ok, h1, h2, h3⟩ => ⟨vr, r, sn, ok, h1, (h2.past hR hlt).mono (Nat.le_refl _) hR.size, h3⟩, fun _ _ _ _ _ hR ⟨vr, r, sn, ok, h1, h2, h3⟩ => ⟨vr, r, sn, ok, h1, (h2.boxW hR (by decide)).mono (Nat.le_refl _) hR.size, h3⟩⟩) ?_
          intro f u w1 hf hC hD K hK
          replace hf : f < 15 := hf
          have hA := hC.1; have hN := hC.2.1; have hc := hC.2.2.1; have hres := hC.2.2.2.1; have oc := hC.2.2.2.2; clear hC
          have d0 := hD.1; have d1 := hD.2.1; have d2 := hD.2.2.1; have d3 := hD.2.2.2.1; have d4 := hD.2.2.2.2.1; have d5 := hD.2.2.2.2.2.1; clear hD
          have q0 : u 0 = .agg #[.slice ac0 c.readers.length pc0, .int .i64 c.writer, .slice ac2 c.q.length pc2] := d0
          have e0 := q0; clear q0
          clear d0
          have q1 : u 1 = .pointer (some ⟨b, 0, none⟩) := d1
          have e1 := q1; clear q1
          clear d1
          have q2 : ∃ x : Int, u 2 = .int .i64 x ∧ 0 ≤ x ∧ x < 6 := d2
          obtain ⟨x2, e2, q2a, q2b⟩ := q2
          clear d2
          have q3 : u 3 = .pointer (some ⟨b, 0, none⟩) := d3
          have e3 := q3; clear q3
          clear d3
          have q4 : ∃ x : Int, u 4 = .int .i64 x ∧ 0 ≤ x ∧ x < 2 := d4
          obtain ⟨x4, e4, q4a, q4b⟩ := q4
          clear d4
          have q5 : ∃ bb : Bool, u 5 = .bool bb := d5
          obtain ⟨bb5, e5⟩ := q5
          clear d5
          simp only [putL, Act.put, List.setIfInBounds_toArray, List.set_cons_zero, List.set_cons_succ, e0, e1, e2, e3, e4, e5] at hK ⊢
          refine Closed.mk ?_
          go_simp
          refine (sLockFor_calls _ c x2 bb5 _ oc.row HN.out).mono ?_
          rintro e w2 ⟨vr, r, sn, ok, rfl, ho, hl, hb⟩
          exact hK.out _ _ ⟨(hA.below hb).mono (by omega), Nat.le_trans hN hb.size, (below_at hb hc), (below_at hb hres), (oc.kept hb)⟩ (grown_of_below hb _) ⟨vr, r, sn, ok, rfl, ho.mono hA.size (Nat.le_refl _), hl⟩
        · refine GoalL.mk (by rfl) (⟨fun _ _ _ _ _ h => h, fun _ _ _ _ _ _ h => h⟩) ?_
          intro f u w1 hf hC hD K hK
          replace hf : f < 15 := hf
          have hA := hC.1; have hN := hC.2.1; have hc := hC.2.2.1; have hres := hC.2.2.2.1; have oc := hC.2.2.2.2; clear hC
          have d0 := hD.1; have d1 := hD.2.1; have d2 := hD.2.2.1; have d3 := hD.2.2.2.1; have d4 := hD.2.2.2.2.1; have d5 := hD.2.2.2.2.2.1; have d6 := hD.2.2.2.2.2.2.1; clear hD
          have q0 : u 0 = .agg #[.slice ac0 c.readers.length pc0, .int .i64 c.writer, .slice ac2 c.q.length pc2] := d0
          have e0 := q0; clear q0
          clear d0
          have q1 : u 1 = .pointer (some ⟨b, 0, none⟩) := d1
          have e1 := q1; clear q1
          clear d1
          have q2 : ∃ x : Int, u 2 = .int .i64 x ∧ 0 ≤ x ∧ x < 6 := d2
          obtain ⟨x2, e2, q2a, q2b⟩ := q2
          clear d2
          have q3 : u 3 = .pointer (some ⟨b, 0, none⟩) := d3
          have e3 := q3; clear q3
          clear d3
          have q4 : ∃ x : Int, u 4 = .int .i64 x ∧ 0 ≤ x ∧ x < 2 := d4
          obtain ⟨x4, e4, q4a, q4b⟩ := q4
          clear d4
          have q5 : ∃ bb : Bool, u 5 = .bool bb := d5
          obtain ⟨bb5, e5⟩ := q5
          clear d5
          have q6 : ∃ vr r sn ok, u 6 = .tuple #[vr, .bool sn, .bool ok] ∧ LockOwn w.heap.size w1.heap.size w1 vr r ∧ LockShort r := d6
          obtain ⟨vr6, r6, sn6, ok6, e6, q6a, q6b⟩ := q6
          have w6 := q6a; obtain ⟨aq6_0, pq6_0, aq6_2, pq6_2, rfl, hx6⟩ := q6a; clear hx6
          clear d6
          simp only [putL, Act.put, List.setIfInBounds_toArray, List.set_cons_zero, List.set_cons_succ, e0, e1, e2, e3, e4, e5, e6] at hK ⊢
          refine Closed.mk ?_
          go_simp
          exact hK.out _ _ ⟨hA.mono (by omega), hN, hc, hres, oc⟩ (World.grownBy.refl _ _) (by simp [mask, e6])
        · refine GoalL.mk (by rfl) (⟨fun _ _ _ _ _ h => h, fun _ _ _ _ _ _ h => h⟩) ?_
          intro f u w1 hf hC hD K hK
          replace hf : f < 15 := hf
          have hA := hC.1; have hN := hC.2.1; have hc := hC.2.2.1; have hres := hC.2.2.2.1; have oc := hC.2.2.2.2; clear hC
          have d0 := hD.1; have d1 := hD.2.1; have d2 := hD.2.2.1; have d3 := hD.2.2.2.1; have d4 := hD.2.2.2.2.1; have d5 := hD.2.2.2.2.2.1; have d6 := hD.2.2.2.2.2.2.1; have d7 := hD.2.2.2.2.2.2.2.1; clear hD
          have q0 : u 0 = .agg #[.slice ac0 c.readers.length pc0, .int .i64 c.writer, .slice ac2 c.q.length pc2] := d0
          have e0 := q0; clear q0
          clear d0
          have q1 : u 1 = .pointer (some ⟨b, 0, none⟩) := d1
          have e1 := q1; clear q1
          clear d1
          have q2 : ∃ x : Int, u 2 = .int .i64 x ∧ 0 ≤ x ∧ x < 6 := d2
          obtain ⟨x2, e2, q2a, q2b⟩ := q2
          clear d2
          have q3 : u 3 = .pointer (some ⟨b, 0, none⟩) := d3
          have e3 := q3; clear q3
          clear d3
          have q4 : ∃ x : Int, u 4 = .int .i64 x ∧ 0 ≤ x ∧ x < 2 := d4
          obtain ⟨x4, e4, q4a, q4b⟩ := q4
          clear d4
          have q5 : ∃ bb : Bool, u 5 = .bool bb := d5
          obtain ⟨bb5, e5⟩ := q5
          clear d5
          have q6 : ∃ vr r sn ok, u 6 = .tuple #[vr, .bool sn, .bool ok] ∧ LockOwn w.heap.size w1.heap.size w1 vr r ∧ LockShort r := d6
          obtain ⟨vr6, r6, sn6, ok6, e6, q6a, q6b⟩ := q6
          have w6 := q6a; obtain ⟨aq6_0, pq6_0, aq6_2, pq6_2, rfl, hx6⟩ := q6a; clear hx6
          clear d6
          have q7 : u 7 = u 6 := d7
          have e7 := q7; clear q7
          rw [e6] at e7
          clear d7
          simp only [putL, Act.put, List.setIfInBounds_toArray, List.set_cons_zero, List.set_cons_succ, e0, e1, e2, e3, e4, e5, e6, e7] at hK ⊢
          refine Closed.mk ?_
          go_simp
          exact hK.out _ _ ⟨hA.mono (by omega), hN, hc, hres, oc⟩ (World.grownBy.refl _ _) (by simp [mask, tget, e7])
        · refine GoalL.mk (by rfl) (⟨fun _ _ _ _ _ h => h, fun _ _ _ _ _ _ h => h⟩) ?_
          intro f u w1 hf hC hD K hK
          replace hf : f < 15 := hf
          have hA := hC.1; have hN := hC.2.1; have hc := hC.2.2.1; have hres := hC.2.2.2.1; have oc := hC.2.2.2.2; clear hC
          have d0 := hD.1; have d1 := hD.2.1; have d2 := hD.2.2.1; have d3 := hD.2.2.2.1; have d4 := hD.2.2.2.2.1; have d5 := hD.2.2.2.2.2.1; have d6 := hD.2.2.2.2.2.2.1; have d7 := hD.2.2.2.2.2.2.2.1; clear hD
          have q0 : u 0 = .agg #[.slice ac0 c.readers.length pc0, .int .i64 c.writer, .slice ac2 c.q.length pc2] := d0
          have e0 := q0; clear q0
          clear d0
          have q1 : u 1 = .pointer (some ⟨b, 0, none⟩) := d1
          have e1 := q1; clear q1
          clear d1
          have q2 : ∃ x : Int, u 2 = .int .i64 x ∧ 0 ≤ x ∧ x < 6 := d2
          obtain ⟨x2, e2, q2a, q2b⟩ := q2
          clear d2
          have q3 : u 3 = .pointer (some ⟨b, 0, none⟩) := d3
          have e3 := q3; clear q3
          clear d3
          have q4 : ∃ x : Int, u 4 = .int .i64 x ∧ 0 ≤ x ∧ x < 2 := d4
          obtain ⟨x4, e4, q4a, q4b⟩ := q4
          clear d4
          have q5 : ∃ bb : Bool, u 5 = .bool bb := d5
          obtain ⟨bb5, e5⟩ := q5
          clear d5
          have q6 : ∃ vr r sn ok, u 6 = .tuple #[vr, .bool sn, .bool ok] ∧ LockOwn w.heap.size w1.heap.size w1 vr r ∧ LockShort r := d6
          obtain ⟨vr6, r6, sn6, ok6, e6, q6a, q6b⟩ := q6
          have w6 := q6a; obtain ⟨aq6_0, pq6_0, aq6_2, pq6_2, rfl, hx6⟩ := q6a; clear hx6
          clear d6
          have q7 : u 7 = u 6 := d7
          have e7 := q7; clear q7
          rw [e6] at e7
          clear d7
          simp only [putL, Act.put, List.setIfInBounds_toArray, List.set_cons_zero, List.set_cons_succ, e0, e1, e2, e3, e4, e5, e6, e7] at hK ⊢
          refine Closed.mk ?_
          go_simp
          exact hK.out _ _ ⟨hA.mono (by omega), hN, hc, hres, oc⟩ (World.grownBy.refl _ _) (by simp [mask, tget, e7])
        · refine GoalL.mk (by rfl) (⟨fun _ _ _ _ _ h => h, fun _ _ _ _ _ _ h => h⟩) ?_
          intro f u w1 hf hC hD K hK
          replace hf : f < 15 := hf
          have hA := hC.1; have hN := hC.2.1; have hc := hC.2.2.1; have hres := hC.2.2.2.1; have oc := hC.2.2.2.2; clear hC
          have d0 := hD.1; have d1 := hD.2.1; have d2 := hD.2.2.1; have d3 := hD.2.2.2.1; have d4 := hD.2.2.2.2.1; have d5 := hD.2.2.2.2.2.1; have d6 := hD.2.2.2.2.2.2.1; have d7 := hD.2.2.2.2.2.2.2.1; clear hD
          have q0 : u 0 = .agg #[.slice ac0 c.readers.length pc0, .int .i64 c.writer, .slice ac2 c.q.length pc2] := d0
          have e0 := q0; clear q0
          clear d0
          have q1 : u 1 = .pointer (some ⟨b, 0, none⟩) := d1
          have e1 := q1; clear q1
          clear d1
          have q2 : ∃ x : Int, u 2 = .int .i64 x ∧ 0 ≤ x ∧ x < 6 := d2
          obtain ⟨x2, e2, q2a, q2b⟩ := q2
          clear d2
          have q3 : u 3 = .pointer (some ⟨b, 0, none⟩) := d3
          have e3 := q3; clear q3
          clear d3
          have q4 : ∃ x : Int, u 4 = .int .i64 x ∧ 0 ≤ x ∧ x < 2 := d4
          obtain ⟨x4, e4, q4a, q4b⟩ := q4
          clear d4
          have q5 : ∃ bb : Bool, u 5 = .bool bb := d5
          obtain ⟨bb5, e5⟩ := q5
          clear d5
          have q6 : ∃ vr r sn ok, u 6 = .tuple #[vr, .bool sn, .bool ok] ∧ LockOwn w.heap.size w1.heap.size w1 vr r ∧ LockShort r := d6
          obtain ⟨vr6, r6, sn6, ok6, e6, q6a, q6b⟩ := q6
          have w6 := q6a; obtain ⟨aq6_0, pq6_0, aq6_2, pq6_2, rfl, hx6⟩ := q6a; clear hx6
          clear d6
          have q7 : u 7 = u 6 := d7
          have e7 := q7; clear q7
          rw [e6] at e7
          clear d7
          simp only [putL, Act.put, List.setIfInBounds_toArray, List.set_cons_zero, List.set_cons_succ, e0, e1, e2, e3, e4, e5, e6, e7] at hK ⊢
          refine Closed.mk ?_
          go_simp
          exact hK.out _ _ ⟨hA.mono (by omega), hN, hc, hres, oc⟩ (World.grownBy.refl _ _) (by simp [mask, tget, e7])
        · refine GoalL.mk (by rfl) (⟨fun _ _ _ _ hR ⟨g, h1, h2, cs, h3, h4⟩ => ⟨g, h1, h2, cs, grown_at hR h3 (by omega), h4⟩, fun _ _ _ _ _ hR ⟨g, h1, h2, cs, h3, h4⟩ => (boxW_shape h3 hR).elim fun cs' h => ⟨g, h1, h2, cs', h.1, by rw [h.2, h4]⟩⟩) ?_
          intro f u w1 hf hC hD K hK
          replace hf : f < 15 := hf
          have hA := hC.1; have hN := hC.2.1; have hc := hC.2.2.1; have hres := hC.2.2.2.1; have oc := hC.2.2.2.2; clear hC
          clear hD
          simp only [putL, Act.put, List.setIfInBounds_toArray, List.set_cons_zero, List.set_cons_succ] at hK ⊢
          refine Closed.mk ?_
          go_simp
          exact hK.out _ _ ⟨(hA.alloc _).mono (by omega), Nat.le_trans hN (alloc_le _ _), (heap_up hc), (heap_up hres), (oc.alloc _)⟩ (World.grownBy_alloc _ _ _) ⟨_, rfl, hN, _, heap_at _ _, rfl⟩
        · refine GoalL.mk (by rfl) (⟨fun u v w w' hR ⟨g, cs, h0, h1, h2, h3⟩ => ⟨g, cs, h0, h1, h2, grown_at hR h3 (by have := hlt; omega)⟩, fun h => by cases h⟩) ?_
          intro f u w1 hf hC hD K hK
          replace hf : f < 15 := hf
          have hA := hC.1; have hN := hC.2.1; have hc := hC.2.2.1; have hres := hC.2.2.2.1; have oc := hC.2.2.2.2; clear hC
          have d11 := hD.1; have d0 := hD.2.1; have d1 := hD.2.2.1; have d2 := hD.2.2.2.1; have d3 := hD.2.2.2.2.1; have d4 := hD.2.2.2.2.2.1; have d5 := hD.2.2.2.2.2.2.1; have d6 := hD.2.2.2.2.2.2.2.1; have d7 := hD.2.2.2.2.2.2.2.2.1; have d8 := hD.2.2.2.2.2.2.2.2.2.1; clear hD
          have q11 : ∃ g, u 11 = .pointer (some ⟨g, 0, none⟩) ∧ w21.heap.size ≤ g ∧ ∃ cs : Array Value, w1.heap[g]? = some (.cells cs 30 (0, 0)) ∧ cs.size = 3 := d11
          obtain ⟨g11, e11, q11a, cs11, q11b, q11c⟩ := q11
          clear d11
          have q0 : u 0 = .agg #[.slice ac0 c.readers.length pc0, .int .i64 c.writer, .slice ac2 c.q.length pc2] := d0
          have e0 := q0; clear q0
          clear d0
          have q1 : u 1 = .pointer (some ⟨b, 0, none⟩) := d1
          have e1 := q1; clear q1
          clear d1
          have q2 : ∃ x : Int, u 2 = .int .i64 x ∧ 0 ≤ x ∧ x < 6 := d2
          obtain ⟨x2, e2, q2a, q2b⟩ := q2
          clear d2
          have q3 : u 3 = .pointer (some ⟨b, 0, none⟩) := d3
          have e3 := q3; clear q3
          clear d3
          have q4 : ∃ x : Int, u 4 = .int .i64 x ∧ 0 ≤ x ∧ x < 2 := d4
          obtain ⟨x4, e4, q4a, q4b⟩ := q4
          clear d4
          have q5 : ∃ bb : Bool, u 5 = .bool bb := d5
          obtain ⟨bb5, e5⟩ := q5
          clear d5
          have q6 : ∃ vr r sn ok, u 6 = .tuple #[vr, .bool sn, .bool ok] ∧ LockOwn w.heap.size w1.heap.size w1 vr r ∧ LockShort r := d6
          obtain ⟨vr6, r6, sn6, ok6, e6, q6a, q6b⟩ := q6
          have w6 := q6a; obtain ⟨aq6_0, pq6_0, aq6_2, pq6_2, rfl, hx6⟩ := q6a; clear hx6
          clear d6
          have q7 : u 7 = u 6 := d7
          have e7 := q7; clear q7
          rw [e6] at e7
          clear d7
          have q8 : u 8 = tget (u 7) 0 := d8
          have e8 := q8; clear q8
          rw [e7] at e8
          simp only [tget] at e8
          replace e8 : u 8 = (.agg #[.slice aq6_0 r6.readers.length pq6_0, .int .i64 r6.writer, .slice aq6_2 r6.q.length pq6_2]) := e8
          clear d8
          simp only [putL, Act.put, List.setIfInBounds_toArray, List.set_cons_zero, List.set_cons_succ, e11, e0, e1, e2, e3, e4, e5, e6, e7, e8] at hK ⊢
          obtain ⟨z0, z1, z2, rfl⟩ := cells3 q11c
          obtain ⟨c9_0, c9_1, c9_2, f9_0, f9_1, f9_2⟩ := box3 q11b
          refine Closed.mk ?_
          go_simp
          exact hK.out undef _ ⟨(((hA.set (a := ⟨g11, 0, none⟩) (show w.heap.size ≤ g11 by omega) (.slice aq6_0 r6.readers.length pq6_0)).set (a := ⟨g11, 1, none⟩) (show w.heap.size ≤ g11 by omega) (.int .i64 r6.writer)).set (a := ⟨g11, 2, none⟩) (show w.heap.size ≤ g11 by omega) (.slice aq6_2 r6.q.length pq6_2)).mono (by omega), (by simp only [szS]; exact hN), (set_off (a := ⟨g11, 2, none⟩) (set_off (a := ⟨g11, 1, none⟩) (set_off (a := ⟨g11, 0, none⟩) hc (show g11 ≠ _ by omega) (.slice aq6_0 r6.readers.length pq6_0)) (show g11 ≠ _ by omega) (.int .i64 r6.writer)) (show g11 ≠ _ by omega) (.slice aq6_2 r6.q.length pq6_2)), (set_off (a := ⟨g11, 2, none⟩) (set_off (a := ⟨g11, 1, none⟩) (set_off (a := ⟨g11, 0, none⟩) hres (show g11 ≠ _ by omega) (.slice aq6_0 r6.readers.length pq6_0)) (show g11 ≠ _ by omega) (.int .i64 r6.writer)) (show g11 ≠ _ by omega) (.slice aq6_2 r6.q.length pq6_2)), (((oc.setB g11 0 q11b (by decide) (.slice aq6_0 r6.readers.length pq6_0)).setB g11 1 (set_at (a := ⟨g11, 0, none⟩) q11b rfl rfl (.slice aq6_0 r6.readers.length pq6_0)) (by decide) (.int .i64 r6.writer)).setB g11 2 (set_at (a := ⟨g11, 1, none⟩) (set_at (a := ⟨g11, 0, none⟩) q11b rfl rfl (.slice aq6_0 r6.readers.length pq6_0)) rfl rfl (.int .i64 r6.writer)) (by decide) (.slice aq6_2 r6.q.length pq6_2))⟩ ⟨g11, _, _, q11a, q11b, (set_at (a := ⟨g11, 2, none⟩) (set_at (a := ⟨g11, 1, none⟩) (set_at (a := ⟨g11, 0, none⟩) q11b rfl rfl (.slice aq6_0 r6.readers.length pq6_0)) rfl rfl (.int .i64 r6.writer)) rfl rfl (.slice aq6_2 r6.q.length pq6_2)), rfl, (grown_set (a := ⟨g11, 2, none⟩) (grown_set (a := ⟨g11, 1, none⟩) (grown_set (a := ⟨g11, 0, none⟩) (World.grownBy.refl _ _) rfl (.slice aq6_0 r6.readers.length pq6_0)) rfl (.int .i64 r6.writer)) rfl (.slice aq6_2 r6.q.length pq6_2))⟩ ⟨g11, _, q11a, (by simp [mask, e11]), (by first | (simp [mask, e8]; done) | (simp [mask, e8]; rfl)), (set_at (a := ⟨g11, 2, none⟩) (set_at (a := ⟨g11, 1, none⟩) (set_at (a := ⟨g11, 0, none⟩) q11b rfl rfl (.slice aq6_0 r6.readers.length pq6_0)) rfl rfl (.int .i64 r6.writer)) rfl rfl (.slice aq6_2 r6.q.length pq6_2))⟩
        · refine GoalL.mk (by rfl) (⟨fun _ _ _ _ _ h => h, fun _ _ _ _ _ _ h => h⟩) ?_
          intro f u w1 hf hC hD K hK
          replace hf : f < 15 := hf
          have hA := hC.1; have hN := hC.2.1; have hc := hC.2.2.1; have hres := hC.2.2.2.1; have oc := hC.2.2.2.2; clear hC
          have d0 := hD.1; have d1 := hD.2.1; have d2 := hD.2.2.1; have d3 := hD.2.2.2.1; have d4 := hD.2.2.2.2.1; have d5 := hD.2.2.2.2.2.1; have d6 := hD.2.2.2.2.2.2.1; have d7 := hD.2.2.2.2.2.2.2.1; have d9 := hD.2.2.2.2.2.2.2.2.1; clear hD
          have q0 : u 0 = .agg #[.slice ac0 c.readers.length pc0, .int .i64 c.writer, .slice ac2 c.q.length pc2] := d0
          have e0 := q0; clear q0
          clear d0
          have q1 : u 1 = .pointer (some ⟨b, 0, none⟩) := d1
          have e1 := q1; clear q1
          clear d1
          have q2 : ∃ x : Int, u 2 = .int .i64 x ∧ 0 ≤ x ∧ x < 6 := d2
          obtain ⟨x2, e2, q2a, q2b⟩ := q2
          clear d2
          have q3 : u 3 = .pointer (some ⟨b, 0, none⟩) := d3
          have e3 := q3; clear q3
          clear d3
          have q4 : ∃ x : Int, u 4 = .int .i64 x ∧ 0 ≤ x ∧ x < 2 := d4
          obtain ⟨x4, e4, q4a, q4b⟩ := q4
          clear d4
          have q5 : ∃ bb : Bool, u 5 = .bool bb := d5
          obtain ⟨bb5, e5⟩ := q5
          clear d5
          have q6 : ∃ vr r sn ok, u 6 = .tuple #[vr, .bool sn, .bool ok] ∧ LockOwn w.heap.size w1.heap.size w1 vr r ∧ LockShort r := d6
          obtain ⟨vr6, r6, sn6, ok6, e6, q6a, q6b⟩ := q6
          have w6 := q6a; obtain ⟨aq6_0, pq6_0, aq6_2, pq6_2, rfl, hx6⟩ := q6a; clear hx6
          clear d6
          have q7 : u 7 = u 6 := d7
          have e7 := q7; clear q7
          rw [e6] at e7
          clear d7
          have q9 : u 9 = tget (u 7) 1 := d9
          have e9 := q9; clear q9
          rw [e7] at e9
          simp only [tget] at e9
          replace e9 : u 9 = .bool sn6 := e9
          clear d9
          simp only [putL, Act.put, List.setIfInBounds_toArray, List.set_cons_zero, List.set_cons_succ, e0, e1, e2, e3, e4, e5, e6, e7, e9] at hK ⊢
          refine Closed.mk ?_
          go_simp
          exact hK.out _ _ ⟨hA.mono (by omega), hN, hc, hres, oc⟩ (World.grownBy.refl _ _) (by simp [mask, e9])
        · refine GoalL.mk (by rfl) (⟨fun _ _ _ _ _ h => h, fun _ _ _ _ _ _ h => h⟩) ?_
          intro f u w1 hf hC hD K hK
          replace hf : f < 15 := hf
          have hA := hC.1; have hN := hC.2.1; have hc := hC.2.2.1; have hres := hC.2.2.2.1; have oc := hC.2.2.2.2; clear hC
          have d0 := hD.1; have d1 := hD.2.1; have d2 := hD.2.2.1; have d3 := hD.2.2.2.1; have d4 := hD.2.2.2.2.1; have d5 := hD.2.2.2.2.2.1; have d6 := hD.2.2.2.2.2.2.1; have d7 := hD.2.2.2.2.2.2.2.1; have d10 := hD.2.2.2.2.2.2.2.2.1; clear hD
          have q0 : u 0 = .agg #[.slice ac0 c.readers.length pc0, .int .i64 c.writer, .slice ac2 c.q.length pc2] := d0
          have e0 := q0; clear q0
          clear d0
          have q1 : u 1 = .pointer (some ⟨b, 0, none⟩) := d1
          have e1 := q1; clear q1
          clear d1
          have q2 : ∃ x : Int, u 2 = .int .i64 x ∧ 0 ≤ x ∧ x < 6 := d2
          obtain ⟨x2, e2, q2a, q2b⟩ := q2
          clear d2
          have q3 : u 3 = .pointer (some ⟨b, 0, none⟩) := d3
          have e3 := q3; clear q3
          clear d3
          have q4 : ∃ x : Int, u 4 = .int .i64 x ∧ 0 ≤ x ∧ x < 2 := d4
          obtain ⟨x4, e4, q4a, q4b⟩ := q4
          clear d4
          have q5 : ∃ bb : Bool, u 5 = .bool bb := d5
          obtain ⟨bb5, e5⟩ := q5
          clear d5
          have q6 : ∃ vr r sn ok, u 6 = .tuple #[vr, .bool sn, .bool ok] ∧ LockOwn w.heap.size w1.heap.size w1 vr r ∧ LockShort r := d6
          obtain ⟨vr6, r6, sn6, ok6, e6, q6a, q6b⟩ := q6
          have w6 := q6a; obtain ⟨aq6_0, pq6_0, aq6_2, pq6_2, rfl, hx6⟩ := q6a; clear hx6
          clear d6
          have q7 : u 7 = u 6 := d7
          have e7 := q7; clear q7
          rw [e6] at e7
          clear d7
          have q10 : u 10 = tget (u 7) 2 := d10
          have e10 := q10; clear q10
          rw [e7] at e10
          simp only [tget] at e10
          replace e10 : u 10 = .bool ok6 := e10
          clear d10
          simp only [putL, Act.put, List.setIfInBounds_toArray, List.set_cons_zero, List.set_cons_succ, e0, e1, e2, e3, e4, e5, e6, e7, e10] at hK ⊢
          refine Closed.mk ?_
          go_simp
          exact hK.out _ _ ⟨hA.mono (by omega), hN, hc, hres, oc⟩ (World.grownBy.refl _ _) (by simp [mask, e10])
        intro u w22 hC hD
        have hA := hC.1; have hN := hC.2.1; have hc := hC.2.2.1; have hres := hC.2.2.2.1; have oc := hC.2.2.2.2; clear hC
        have d0 := hD.1; have d1 := hD.2.1; have d2 := hD.2.2.1; have d3 := hD.2.2.2.1; have d4 := hD.2.2.2.2.1; have d5 := hD.2.2.2.2.2.1; have d6 := hD.2.2.2.2.2.2.1; have d7 := hD.2.2.2.2.2.2.2.1; have d8 := hD.2.2.2.2.2.2.2.2.1; have d9 := hD.2.2.2.2.2.2.2.2.2.1; have d10 := hD.2.2.2.2.2.2.2.2.2.2.1; have d11 := hD.2.2.2.2.2.2.2.2.2.2.2.1; have d12 := hD.2.2.2.2.2.2.2.2.2.2.2.2.1; have d13 := hD.2.2.2.2.2.2.2.2.2.2.2.2.2.1; have d14 := hD.2.2.2.2.2.2.2.2.2.2.2.2.2.2.1; clear hD
        have q0 : u 0 = .agg #[.slice ac0 c.readers.length pc0, .int .i64 c.writer, .slice ac2 c.q.length pc2] := d0
        have e0 := q0; clear q0
        clear d0
        have q1 : u 1 = .pointer (some ⟨b, 0, none⟩) := d1
        have e1 := q1; clear q1
        clear d1
        have q2 : ∃ x : Int, u 2 = .int .i64 x ∧ 0 ≤ x ∧ x < 6 := d2
        obtain ⟨x2, e2, q2a, q2b⟩ := q2
        clear d2
        have q3 : u 3 = .pointer (some ⟨b, 0, none⟩) := d3
        have e3 := q3; clear q3
        clear d3
        have q4 : ∃ x : Int, u 4 = .int .i64 x ∧ 0 ≤ x ∧ x < 2 := d4
        obtain ⟨x4, e4, q4a, q4b⟩ := q4
        clear d4
        have q5 : ∃ bb : Bool, u 5 = .bool bb := d5
        obtain ⟨bb5, e5⟩ := q5
        clear d5
        have q6 : ∃ vr r sn ok, u 6 = .tuple #[vr, .bool sn, .bool ok] ∧ LockOwn w.heap.size w22.heap.size w22 vr r ∧ LockShort r := d6
        obtain ⟨vr6, r6, sn6, ok6, e6, q6a, q6b⟩ := q6
        have w6 := q6a; obtain ⟨aq6_0, pq6_0, aq6_2, pq6_2, rfl, hx6⟩ := q6a; clear hx6
        clear d6
        have q7 : u 7 = u 6 := d7
        have e7 := q7; clear q7
        rw [e6] at e7
        clear d7
        have q8 : u 8 = tget (u 7) 0 := d8
        have e8 := q8; clear q8
        rw [e7] at e8
        simp only [tget] at e8
        replace e8 : u 8 = (.agg #[.slice aq6_0 r6.readers.length pq6_0, .int .i64 r6.writer, .slice aq6_2 r6.q.length pq6_2]) := e8
        clear d8
        have q9 : u 9 = tget (u 7) 1 := d9
        have e9 := q9; clear q9
        rw [e7] at e9
        simp only [tget] at e9
        replace e9 : u 9 = .bool sn6 := e9
        clear d9
        have q10 : u 10 = tget (u 7) 2 := d10
        have e10 := q10; clear q10
        rw [e7] at e10
        simp only [tget] at e10
        replace e10 : u 10 = .bool ok6 := e10
        clear d10
        have q11 : ∃ g, u 11 = .pointer (some ⟨g, 0, none⟩) ∧ w21.heap.size ≤ g ∧ ∃ cs : Array Value, w22.heap[g]? = some (.cells cs 30 (0, 0)) ∧ cs.size = 3 := d11
        obtain ⟨g11, e11, q11a, cs11, q11b, q11c⟩ := q11
        clear d11
        have q12 : ∃ g cs, w21.heap.size ≤ g ∧ u 11 = .pointer (some ⟨g, 0, none⟩) ∧ u 8 = .agg cs ∧ w22.heap[g]? = some (.cells cs 30 (0, 0)) := d12
        clear d12
        have q13 : u 13 = u 9 := d13
        have e13 := q13; clear q13
        rw [e9] at e13
        clear d13
        have q14 : u 14 = u 10 := d14
        have e14 := q14; clear q14
        rw [e10] at e14
        clear d14
        replace hA : Dr w b (((N + 1 + 16 * (6 - k)) + 1) + (15 - (15 - 15))) w22 := hA
        have A22 : Hid (Dr w b ((N + 1 + 16 * (6 - k)) + 16) w22) := hA.mono (by omega)
        have N22 := hN; have S22 := hA.size
        have Xc_22 := Lib.hid hc; clear hc
        have Xres_22 := Lib.hid hres; clear hres
        have Oc_22 := Lib.hid oc; clear oc
        obtain ⟨gg, cc, hg0, hg1, hg2, hg3⟩ := q12
        clear hg0; have hg4 := same_tuple e11 hg1; have hg5 := same_agg e8 hg2
        rw [hg4, hg5] at hg3
        clear hg1 hg2 hg4 hg5
        have Xnew_22 := Lib.hid hg3; clear hg3 q11b q11c
        have Oq6__22 := Lib.hid w6; clear w6
        have HV6 := Lib.hid q6b; clear q6b
        obtain ⟨cc22_0, cc22_1, cc22_2, fc22_0, fc22_1, fc22_2⟩ := box3 Xc_22.out; have lc22 := heap_lt Xc_22.out
        obtain ⟨cres22_0, cres22_1, cres22_2, fres22_0, fres22_1, fres22_2⟩ := box3 Xres_22.out; have lres22 := heap_lt Xres_22.out
        obtain ⟨cnew22_0, cnew22_1, cnew22_2, fnew22_0, fnew22_1, fnew22_2⟩ := box3 Xnew_22.out; have lnew22 := heap_lt Xnew_22.out
        clear hA hN
        simp only [putL, Act.put, List.setIfInBounds_toArray, List.set_cons_zero, List.set_cons_succ, e0, e1, e2, e3, e4, e5, e6, e7, e8, e9, e10, e11, e13, e14]
        refine Closed.mk ?_
        refine wpAnyH_done (by kernel_rfl) ?_ _
        cases ok6
        · go_wp2
          go_roundw
          case rel => exact ⟨k - 1, c, _, _, _, _, by omega, by go_num, Xc_22.out, Xres_22.out, Oc_22.out.tight, VC.out, A22.out.mono (by omega), by first | omega | (simp only [szA, szS, szD]; omega)⟩
          case measure => simp [intOf]; omega
        · go_wp2
          go_roundw
          case rel => exact ⟨k - 1, r6, _, _, _, _, by omega, by go_num, (set_at (a := ⟨w1.heap.size, 2, none⟩) (set_at (a := ⟨w1.heap.size, 1, none⟩) (set_at (a := ⟨w1.heap.size, 0, none⟩) Xc_22.out rfl rfl (.slice aq6_0 r6.readers.length pq6_0)) rfl rfl (.int .i64 r6.writer)) rfl rfl (.slice aq6_2 r6.q.length pq6_2)), (set_off (a := ⟨w1.heap.size, 2, none⟩) (set_off (a := ⟨w1.heap.size, 1, none⟩) (set_off (a := ⟨w1.heap.size, 0, none⟩) Xres_22.out (by first | omega | (simp only [szA, szS, szD, World.heap_drewN] at * <;> omega)) (.slice aq6_0 r6.readers.length pq6_0)) (by first | omega | (simp only [szA, szS, szD, World.heap_drewN] at * <;> omega)) (.int .i64 r6.writer)) (by first | omega | (simp only [szA, szS, szD, World.heap_drewN] at * <;> omega)) (.slice aq6_2 r6.q.length pq6_2)), (((Oq6__22.out.setB (w1.heap.size) 0 Xc_22.out (by decide) (.slice aq6_0 r6.readers.length pq6_0)).setB (w1.heap.size) 1 (set_at (a := ⟨w1.heap.size, 0, none⟩) Xc_22.out rfl rfl (.slice aq6_0 r6.readers.length pq6_0)) (by decide) (.int .i64 r6.writer)).setB (w1.heap.size) 2 (set_at (a := ⟨w1.heap.size, 1, none⟩) (set_at (a := ⟨w1.heap.size, 0, none⟩) Xc_22.out rfl rfl (.slice aq6_0 r6.readers.length pq6_0)) rfl rfl (.int .i64 r6.writer)) (by decide) (.slice aq6_2 r6.q.length pq6_2)).tight, HV6.out, (((A22.out.set (a := ⟨w1.heap.size, 0, none⟩) (by first | omega | (simp only [szA, szS, szD, World.heap_drewN] at * <;> omega)) (.slice aq6_0 r6.readers.length pq6_0)).set (a := ⟨w1.heap.size, 1, none⟩) (by first | omega | (simp only [szA, szS, szD, World.heap_drewN] at * <;> omega)) (.int .i64 r6.writer)).set (a := ⟨w1.heap.size, 2, none⟩) (by first | omega | (simp only [szA, szS, szD, World.heap_drewN] at * <;> omega)) (.slice aq6_2 r6.q.length pq6_2)).mono (by omega), by first | omega | (simp only [szA, szS, szD]; omega)⟩
          case measure => simp [intOf]; omega
    · obtain rfl : k = 0 := by omega
      have nn : w1.heap.size ≠ w.heap.size := by omega
      have nn2 := nn.symm
      go_wp2_with (fail)
      refine bodyPost_ret (v := .agg #[.slice ac0 c.readers.length pc0, .int .i64 c.writer, .slice ac2 c.q.length pc2]) (by simp [results, Tryd.results31, go_sem, cres20_0, cres20_1, cres20_2, lres20, cc20_0, cc20_1, cc20_2, lc20, nn, nn2]) rfl ⟨_, c, rfl, (((Oc_20.out.setB (w.heap.size) 0 Xres_20.out (by decide) (.slice ac0 c.readers.length pc0)).setB (w.heap.size) 1 (set_at (a := ⟨w.heap.size, 0, none⟩) Xres_20.out rfl rfl (.slice ac0 c.readers.length pc0)) (by decide) (.int .i64 c.writer)).setB (w.heap.size) 2 (set_at (a := ⟨w.heap.size, 1, none⟩) (set_at (a := ⟨w.heap.size, 0, none⟩) Xres_20.out rfl rfl (.slice ac0 c.readers.length pc0)) rfl rfl (.int .i64 c.writer)) (by decide) (.slice ac2 c.q.length pc2)).tight, by have := VC.out; unfold LockShort at this; unfold LockFew; omega, (((A20.out.set (a := ⟨w.heap.size, 0, none⟩) (by first | omega | (simp only [szA, szS, szD, World.heap_drewN] at * <;> omega)) (.slice ac0 c.readers.length pc0)).set (a := ⟨w.heap.size, 1, none⟩) (by first | omega | (simp only [szA, szS, szD, World.heap_drewN] at * <;> omega)) (.int .i64 c.writer)).set (a := ⟨w.heap.size, 2, none⟩) (by first | omega | (simp only [szA, szS, szD, World.heap_drewN] at * <;> omega)) (.slice ac2 c.q.length pc2)).mono (by omega)⟩
end Go.Proofs.YtbnfhnfnbhigoaaDoor
