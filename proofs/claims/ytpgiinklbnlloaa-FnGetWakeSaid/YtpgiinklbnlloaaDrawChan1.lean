/- l5Draw: a channel that is drawn is short (made by gen_chandraw.py). -/
import Derived.Test.YtpgiinklbnlloaaChanFew
import Derived.Test.YtpgiinklbnlloaaDrChan
import Derived.Test.YtpgiinklbnlloaaRgBox
namespace Go.Proofs.Ytpgiinklbnlloaa
open Go.RowKit
set_option linter.unusedSimpArgs false
set_option linter.unusedVariables false
theorem newChan_few {l : Int} {r : ChanD} {b : Bool} (h : newChan l = (r, b)) : ChanFew 7 r := by
  unfold newChan at h
  split at h
  · injection h with h _; subst h; simp [ChanFew]
  · injection h with h _; subst h; exact few_zero
theorem few_small {M : Nat} {c : ChanD} (h : ChanFew M c) (hM : M ≤ 1000) : c.items.length + c.senders.length + c.getters.length ≤ 1048576 := by
  unfold ChanFew at h; omega
set_option maxHeartbeats 8000000 in
theorem l5Draw_calls (b N : Nat) (w0 w : World) (h : Dr w0 b N w) (hN : N ≤ 900000) :
    Calls Try.prog 66 #[.pointer (some ⟨b, 0, none⟩)] w (ChanPost 10 w b (N + 100)) := by
  have A0 := Lib.hid (Dr.start h.r); have hlt := h.r.lt; clear h
  go_enter Try.func66, Try.ntmps66
  go_wp2_with (fail)
  refine (numD b N _ [1, 2, 0, 4] w _ ((A0.out.alloc _).alloc _) (by omega) (lit_row _ (by decide) rfl rfl (by first | omega | (simp only [szA, szS, szD, World.heap_drewN] at * <;> omega))) (by decide) (by simp [Value.ownBlock]; omega)).mono ?_
  rintro e w1 ⟨i0, rfl, hi0, hd⟩
  have A1 := Lib.hid (Dr.then ((A0.out.alloc _).alloc _) hd)
  have Z1 := hd.size
  have N1 : w.heap.size + 2 ≤ w1.heap.size := (by first | with_reducible exact Z1 | (simp only [szA, szS, szD] at Z1; omega))
  clear Z1
  have Xres_1 : Hid (w1.heap[w.heap.size]? = some (.cells #[.int .i64 0, .slice none 0 0, .slice none 0 0, .slice none 0 0, .bool false] 25 (0, 0))) := hd.at_ (heap_up (heap_at' (n := w.heap.size) (by first | omega | (simp only [szA, szS, szD, World.heap_drewN] at * <;> omega)))) (by first | omega | (simp only [szA, szS, szD, World.heap_drewN] at * <;> omega))
  clear hd
  obtain ⟨cres1_0, cres1_1, cres1_2, cres1_3, cres1_4, fres1_0, fres1_1, fres1_2, fres1_3, fres1_4⟩ := box5 Xres_1.out; have lres1 := heap_lt Xres_1.out
  have S1 : w.heap.size ≤ w1.heap.size := (by omega)
  have hi0b : 0 ≤ i0 ∧ i0 ≤ 4 := by simp at hi0; omega
  obtain ⟨hi00, hi01⟩ := hi0b; clear hi0
  obtain ⟨r0, b0, hr0⟩ : ∃ r b, newChan i0 = (r, b) := ⟨_, _, rfl⟩
  have HR0 := Lib.hid hr0; clear hr0
  go_wp2_with (fail)
  refine (sNewChanO i0 r0 b0 _ HR0.out).mono ?_
  rintro e w2 ⟨vn, rfl, ho_n, hb⟩
  have A2 := Lib.hid (Dr.below A1.out hb)
  have Z2 := hb.size
  have N2 : w1.heap.size ≤ w2.heap.size := (by first | with_reducible exact Z2 | (simp only [szA, szS, szD] at Z2; omega))
  clear Z2
  have Xres_2 := Lib.hid (below_at hb Xres_1.out)
  have On_2 := Lib.hid (ho_n.mono (lo' := w.heap.size) (by first | omega | (simp only [szA, szS, szD, World.heap_drewN] at * <;> omega)) (Nat.le_refl _)); obtain ⟨an1, pn1, an2, pn2, an3, pn3, rfl, hx_n⟩ := ho_n; clear hx_n
  clear hb
  obtain ⟨cres2_0, cres2_1, cres2_2, cres2_3, cres2_4, fres2_0, fres2_1, fres2_2, fres2_3, fres2_4⟩ := box5 Xres_2.out; have lres2 := heap_lt Xres_2.out
  have S2 : w.heap.size ≤ w2.heap.size := (by omega)
  clear cres1_0 cres1_1 cres1_2 cres1_3 cres1_4 fres1_0 fres1_1 fres1_2 fres1_3 fres1_4
  go_wp2_with (fail)
  refine (pickD b (N + 1) 3 w _ (A2.out.alloc _) (by omega) (by decide)).mono ?_
  rintro e w3 ⟨g, rfl, hg0, hg1, hd⟩
  have A3 := Lib.hid (Dr.then (A2.out.alloc _) hd)
  have Z3 := hd.size
  have N3 : w2.heap.size + 1 ≤ w3.heap.size := (by first | with_reducible exact Z3 | (simp only [szA, szS, szD] at Z3; omega))
  clear Z3
  have Xres_3 := Lib.hid (hd.at_ (heap_up Xres_2.out) (by first | omega | (simp only [szA, szS, szD, World.heap_drewN] at * <;> omega)))
  have Xc_3 : Hid (w3.heap[w2.heap.size]? = some (.cells #[.int .i64 r0.room, .slice an1 r0.items.length pn1, .slice an2 r0.senders.length pn2, .slice an3 r0.getters.length pn3, .bool r0.closed] 25 (0, 0))) := hd.at_ (heap_at' (n := w2.heap.size) (by first | omega | (simp only [szA, szS, szD, World.heap_drewN] at * <;> omega))) (by first | omega | (simp only [szA, szS, szD, World.heap_drewN] at * <;> omega))
  have On_3 := Lib.hid ((On_2.out.alloc _).past hd.g hlt)
  clear hd
  obtain ⟨cres3_0, cres3_1, cres3_2, cres3_3, cres3_4, fres3_0, fres3_1, fres3_2, fres3_3, fres3_4⟩ := box5 Xres_3.out; have lres3 := heap_lt Xres_3.out
  obtain ⟨cc3_0, cc3_1, cc3_2, cc3_3, cc3_4, fc3_0, fc3_1, fc3_2, fc3_3, fc3_4⟩ := box5 Xc_3.out; have lc3 := heap_lt Xc_3.out
  have S3 : w.heap.size ≤ w3.heap.size := (by omega)
  clear cres2_0 cres2_1 cres2_2 cres2_3 cres2_4 fres2_0 fres2_1 fres2_2 fres2_3 fres2_4
  go_wp2_with (fail)
  refine (numD b (N + 2) _ [3, 2, 5, 1, 0] w _ (A3.out.alloc _) (by omega) (lit_row _ (by decide) rfl rfl (by first | omega | (simp only [szA, szS, szD, World.heap_drewN] at * <;> omega))) (by decide) (by simp [Value.ownBlock]; omega)).mono ?_
  rintro e w4 ⟨i, rfl, hi, hd⟩
  have A4 := Lib.hid (Dr.then (A3.out.alloc _) hd)
  have Z4 := hd.size
  have N4 : w3.heap.size + 1 ≤ w4.heap.size := (by first | with_reducible exact Z4 | (simp only [szA, szS, szD] at Z4; omega))
  clear Z4
  have Xres_4 := Lib.hid (hd.at_ (heap_up Xres_3.out) (by first | omega | (simp only [szA, szS, szD, World.heap_drewN] at * <;> omega)))
  have Xc_4 := Lib.hid (hd.at_ (heap_up Xc_3.out) (by first | omega | (simp only [szA, szS, szD, World.heap_drewN] at * <;> omega)))
  have On_4 := Lib.hid ((On_3.out.alloc _).past hd.g hlt)
  clear hd
  obtain ⟨cres4_0, cres4_1, cres4_2, cres4_3, cres4_4, fres4_0, fres4_1, fres4_2, fres4_3, fres4_4⟩ := box5 Xres_4.out; have lres4 := heap_lt Xres_4.out
  obtain ⟨cc4_0, cc4_1, cc4_2, cc4_3, cc4_4, fc4_0, fc4_1, fc4_2, fc4_3, fc4_4⟩ := box5 Xc_4.out; have lc4 := heap_lt Xc_4.out
  have S4 : w.heap.size ≤ w4.heap.size := (by omega)
  clear cres3_0 cres3_1 cres3_2 cres3_3 cres3_4 fres3_0 fres3_1 fres3_2 fres3_3 fres3_4 cc3_0 cc3_1 cc3_2 cc3_3 cc3_4 fc3_0 fc3_1 fc3_2 fc3_3 fc3_4
  have hib : 0 ≤ i ∧ i ≤ 5 := by simp at hi; omega
  obtain ⟨hi0, hi1⟩ := hib; clear hi
  obtain ⟨i, rfl⟩ := Int.eq_ofNat_of_zero_le hi0
  go_wp2_with (fail)
  generalize hgb : (g == (0 : Int)) = gb
  clear hgb
  go_loopw [6] (fun v wr => ∃ (k : Nat) (c : ChanD) (ac1 : Option Addr) (pc1 : Nat) (ac2 : Option Addr) (pc2 : Nat) (ac3 : Option Addr) (pc3 : Nat), k ≤ 5 ∧ v = .int .i64 k ∧ wr.heap[w2.heap.size]? = some (.cells #[.int .i64 c.room, .slice ac1 c.items.length pc1, .slice ac2 c.senders.length pc2, .slice ac3 c.getters.length pc3, .bool c.closed] 25 (0, 0)) ∧ wr.heap[w.heap.size]? = some (.cells #[.int .i64 0, .slice none 0 0, .slice none 0 0, .slice none 0 0, .bool false] 25 (0, 0)) ∧ ChanOwn w.heap.size wr.heap.size wr (.agg #[.int .i64 c.room, .slice ac1 c.items.length pc1, .slice ac2 c.senders.length pc2, .slice ac3 c.getters.length pc3, .bool c.closed]) c ∧ ChanFew 7 c ∧ Dr w b (N + 3 + 18 * (5 - k)) wr ∧ w4.heap.size ≤ wr.heap.size) (fun v _ => (intOf v).toNat)
  case atStart => exact ⟨i, r0, _, _, _, _, _, _, by omega, rfl, Xc_4.out, Xres_4.out, On_4.out.tight, newChan_few HR0.out, A4.out.mono (by omega), by omega⟩
  case round =>
    obtain ⟨w20, rfl⟩ : ∃ x : World, x = wr := ⟨_, rfl⟩
    obtain ⟨k, c, ac1, pc1, ac2, pc2, ac3, pc3, hk, rfl, hx, hy, ho, hv, hA, hz⟩ := hrel
    have Xc_20 := Lib.hid hx; have Xres_20 := Lib.hid hy; have Oc_20 := Lib.hid ho; have VC := Lib.hid hv; have A20 := Lib.hid hA; have S20 := hA.size; have N20 := hz; have HN := Lib.hid (few_small hv (by decide)); clear hx hy ho hv hA hz
    obtain ⟨cc20_0, cc20_1, cc20_2, cc20_3, cc20_4, fc20_0, fc20_1, fc20_2, fc20_3, fc20_4⟩ := box5 Xc_20.out; have lc20 := heap_lt Xc_20.out
    obtain ⟨cres20_0, cres20_1, cres20_2, cres20_3, cres20_4, fres20_0, fres20_1, fres20_2, fres20_3, fres20_4⟩ := box5 Xres_20.out; have lres20 := heap_lt Xres_20.out
    by_cases hk0 : 0 < k
    · cases gb
      · go_wp2_with (fail)
        refine (pickD b (N + 3 + 18 * (5 - k)) 6 w _ A20.out (by omega) (by decide)).mono ?_
        rintro e w21 ⟨y, rfl, hy0, hy1, hd⟩
        have A21 := Lib.hid (Dr.then A20.out hd)
        have Z21 := hd.size
        have N21 : w20.heap.size ≤ w21.heap.size := (by first | with_reducible exact Z21 | (simp only [szA, szS, szD] at Z21; omega))
        clear Z21
        have Xc_21 := Lib.hid (hd.at_ Xc_20.out (by first | omega | (simp only [szA, szS, szD, World.heap_drewN] at * <;> omega)))
        have Xres_21 := Lib.hid (hd.at_ Xres_20.out (by first | omega | (simp only [szA, szS, szD, World.heap_drewN] at * <;> omega)))
        have Oc_21 := Lib.hid (Oc_20.out.past hd.g hlt)
        clear hd
        obtain ⟨cc21_0, cc21_1, cc21_2, cc21_3, cc21_4, fc21_0, fc21_1, fc21_2, fc21_3, fc21_4⟩ := box5 Xc_21.out; have lc21 := heap_lt Xc_21.out
        obtain ⟨cres21_0, cres21_1, cres21_2, cres21_3, cres21_4, fres21_0, fres21_1, fres21_2, fres21_3, fres21_4⟩ := box5 Xres_21.out; have lres21 := heap_lt Xres_21.out
        have S21 : w.heap.size ≤ w21.heap.size := (by omega)
        by_cases hy0e : y = 0
        · subst hy0e
          go_wp2_with (fail)
          obtain ⟨hi_c, HI_c⟩ : ∃ hi, ChanOwn w.heap.size hi w21 (.agg #[.int .i64 c.room, .slice ac1 c.items.length pc1, .slice ac2 c.senders.length pc2, .slice ac3 c.getters.length pc3, .bool c.closed]) c := ⟨_, Oc_21.out⟩
          have hN0 : w21.heap.size ≤ w21.heap.size := (by first | omega | (simp only [szA, szS, szD, World.heap_drewN] at * <;> omega))
          refine wp_region_L [⟨0, false, [], fun _ v _ => v = .agg #[.int .i64 c.room, .slice ac1 c.items.length pc1, .slice ac2 c.senders.length pc2, .slice ac3 c.getters.length pc3, .bool c.closed]⟩, ⟨1, false, [], fun _ v _ => v = .pointer (some ⟨b, 0, none⟩)⟩, ⟨2, false, [1], fun _ v _ => ∃ x : Int, v = .int .i64 x ∧ 0 ≤ x ∧ x < 6⟩, ⟨3, false, [0, 1, 2], fun _ v w' => ∃ vr r x st uy ok, v = .tuple #[vr, .int .i64 x, .int .i64 st, uy, .bool ok] ∧ ChanOwn w.heap.size w'.heap.size w' vr r ∧ ChanFew 7 r⟩, ⟨4, false, [0, 1, 2, 3], fun u v _ => v = u 3⟩, ⟨5, false, [0, 1, 2, 3, 4], fun u v _ => v = tget (u 4) 0⟩, ⟨6, false, [0, 1, 2, 3, 4], fun u v _ => v = tget (u 4) 1⟩, ⟨7, false, [0, 1, 2, 3, 4], fun u v _ => v = tget (u 4) 2⟩, ⟨8, false, [0, 1, 2, 3, 4], fun u v _ => v = tget (u 4) 3⟩, ⟨9, false, [0, 1, 2, 3, 4], fun u v _ => v = tget (u 4) 4⟩, ⟨10, false, [], fun _ v w' => ∃ g, v = .pointer (some ⟨g, 0, none⟩) ∧ w21.heap.size ≤ g ∧ ∃ cs : Array Value, w'.heap[g]? = some (.cells cs 25 (0, 0)) ∧ cs.size = 5⟩, ⟨11, true, [10, 0, 1, 2, 3, 4, 5], fun u _ w' => ∃ g cs, w21.heap.size ≤ g ∧ u 10 = .pointer (some ⟨g, 0, none⟩) ∧ u 5 = .agg cs ∧ w'.heap[g]? = some (.cells cs 25 (0, 0))⟩, ⟨12, false, [0, 1, 2, 3, 4, 6], fun u v _ => v = u 6⟩, ⟨13, false, [0, 1, 2, 3, 4, 7], fun u v _ => v = u 7⟩, ⟨14, false, [0, 1, 2, 3, 4, 8], fun u v _ => v = u 8⟩, ⟨15, false, [0, 1, 2, 3, 4, 9], fun u v _ => v = u 9⟩] [(0, some 43), (1, some 44), (2, some 45), (3, some 46), (4, some 42), (5, some 47), (6, some 48), (7, some 49), (8, some 50), (9, some 51), (10, some 7), (11, none), (12, some 8), (13, some 9), (14, some 10), (15, some 11)] (fun f w' => Dr w b (((N + 3 + 18 * (5 - k)) + 1) + (16 - f)) w' ∧ w21.heap.size ≤ w'.heap.size ∧ w'.heap[w2.heap.size]? = some (.cells #[.int .i64 c.room, .slice ac1 c.items.length pc1, .slice ac2 c.senders.length pc2, .slice ac3 c.getters.length pc3, .bool c.closed] 25 (0, 0)) ∧ w'.heap[w.heap.size]? = some (.cells #[.int .i64 0, .slice none 0 0, .slice none 0 0, .slice none 0 0, .bool false] 25 (0, 0)) ∧ ChanOwn w.heap.size hi_c w' (.agg #[.int .i64 c.room, .slice ac1 c.items.length pc1, .slice ac2 c.senders.length pc2, .slice ac3 c.getters.length pc3, .bool c.closed]) c) (fun x w1 w2 => if x = true then BoxW (w21.heap.size) 25 w1 w2 else w1.grownBy w2 (some b)) (by kernel_rfl) (by rfl) (by kernel_rfl) (by kernel_rfl) ⟨Dr.mono A21.out.drew (by omega), hN0, heap_drew Xc_21.out, heap_drew Xres_21.out, HI_c⟩ (GoalsL.cons ?_ (GoalsL.cons ?_ (GoalsL.cons ?_ (GoalsL.cons ?_ (GoalsL.cons ?_ (GoalsL.cons ?_ (GoalsL.cons ?_ (GoalsL.cons ?_ (GoalsL.cons ?_ (GoalsL.cons ?_ (GoalsL.cons ?_ (GoalsL.cons ?_ (GoalsL.cons ?_ (GoalsL.cons ?_ (GoalsL.cons ?_ (GoalsL.cons ?_ (GoalsL.nil))))))))))))))))) ?_
          · refine GoalL.mk (by rfl) (⟨fun _ _ _ _ _ h => h, fun _ _ _ _ _ _ h => h⟩) ?_
            intro f u w1 hf hC hD K hK
            replace hf : f < 16 := hf
            have hA := hC.1; have hN := hC.2.1; have hc := hC.2.2.1; have hres := hC.2.2.2.1; have oc := hC.2.2.2.2; clear hC
            clear hD
            simp only [putL, Act.put, List.setIfInBounds_toArray, List.set_cons_zero, List.set_cons_succ] at hK ⊢
            obtain ⟨cc_0, cc_1, cc_2, cc_3, cc_4, fc_0, fc_1, fc_2, fc_3, fc_4⟩ := box5 hc
            refine Closed.mk ?_
            go_simp
            exact hK.out _ _ ⟨hA.mono (by omega), hN, hc, hres, oc⟩ (World.grownBy.refl _ _) rfl
          · refine GoalL.mk (by rfl) (⟨fun _ _ _ _ _ h => h, fun _ _ _ _ _ _ h => h⟩) ?_
            intro f u w1 hf hC hD K hK
            replace hf : f < 16 := hf
            have hA := hC.1; have hN := hC.2.1; have hc := hC.2.2.1; have hres := hC.2.2.2.1; have oc := hC.2.2.2.2; clear hC
            clear hD
            simp only [putL, Act.put, List.setIfInBounds_toArray, List.set_cons_zero, List.set_cons_succ] at hK ⊢
            refine Closed.mk ?_
            go_simp
            exact hK.out _ _ ⟨hA.mono (by omega), hN, hc, hres, oc⟩ (World.grownBy.refl _ _) rfl
          · refine GoalL.mk (by rfl) (⟨fun _ _ _ _ _ h => h, fun _ _ _ _ _ _ h => h⟩) ?_
            intro f u w1 hf hC hD K hK
            replace hf : f < 16 := hf
            have hA := hC.1; have hN := hC.2.1; have hc := hC.2.2.1; have hres := hC.2.2.2.1; have oc := hC.2.2.2.2; clear hC
            have d1 := hD.1; clear hD
            have q1 : u 1 = .pointer (some ⟨b, 0, none⟩) := d1
            have e1 := q1; clear q1
            clear d1
            simp only [putL, Act.put, List.setIfInBounds_toArray, List.set_cons_zero, List.set_cons_succ, e1] at hK ⊢
            refine Closed.mk ?_
            go_simp
            refine (pickD b (((N + 3 + 18 * (5 - k)) + 1) + (16 - (f + 1))) 6 w _ hA (by omega) (by decide)).mono ?_
            rintro e w2 ⟨x, rfl, hx0, hx1, hd⟩
            exact hK.out _ _ ⟨(hA.then hd).mono (by omega), Nat.le_trans hN hd.size, (hd.at_ hc (by omega)), (hd.at_ hres (by omega)), (oc.past hd.g hlt)⟩ hd.g ⟨x, rfl, hx0, by omega⟩
          · refine GoalL.mk (by rfl) (⟨fun _ _ _ _ hR ⟨vr, r, x, st, uy, ok, h1, h2, h3⟩ => ⟨vr, r, x, st, uy, ok, h1, (h2.past hR hlt).mono (Nat.le_refl _) hR.size, h3⟩, fun _ _ _ _ _ hR ⟨vr, r, x, st, uy, ok, h1, h2, h3⟩ => ⟨vr, r, x, st, uy, ok, h1, (h2.boxW hR (by decide)).mono (Nat.le_refl _) hR.size, h3⟩⟩) ?_
            intro f u w1 hf hC hD K hK
            replace hf : f < 16 := hf
            have hA := hC.1; have hN := hC.2.1; have hc := hC.2.2.1; have hres := hC.2.2.2.1; have oc := hC.2.2.2.2; clear hC
            have d0 := hD.1; have d1 := hD.2.1; have d2 := hD.2.2.1; clear hD
            have q0 : u 0 = .agg #[.int .i64 c.room, .slice ac1 c.items.length pc1, .slice ac2 c.senders.length pc2, .slice ac3 c.getters.length pc3, .bool c.closed] := d0
            have e0 := q0; clear q0
            clear d0
            have q1 : u 1 = .pointer (some ⟨b, 0, none⟩) := d1
            have e1 := q1; clear q1
            clear d1
            have q2 : ∃ x : Int, u 2 = .int .i64 x ∧ 0 ≤ x ∧ x < 6 := d2
            obtain ⟨x2, e2, q2a, q2b⟩ := q2
            clear d2
            simp only [putL, Act.put, List.setIfInBounds_toArray, List.set_cons_zero, List.set_cons_succ, e0, e1, e2] at hK ⊢
            obtain ⟨r, x, st, uy, ok, hr⟩ : ∃ r x st uy ok, getC c x2 = (r, x, st, uy, ok) := ⟨_, _, _, _, _, rfl⟩
            refine Closed.mk ?_
            go_simp
            refine (sGetChanO _ c x2 r x st uy ok _ oc.row HN.out hr).mono ?_
            rintro e w2 ⟨vr, vu, rfl, ho, hu, hb⟩
            exact hK.out _ _ ⟨(hA.below hb).mono (by omega), Nat.le_trans hN hb.size, (below_at hb hc), (below_at hb hres), (oc.kept hb)⟩ (grown_of_below hb _) ⟨vr, r, x, st, vu, ok, rfl, ho.mono hA.size (Nat.le_refl _), get_few hr⟩
          · refine GoalL.mk (by rfl) (⟨fun _ _ _ _ _ h => h, fun _ _ _ _ _ _ h => h⟩) ?_
            intro f u w1 hf hC hD K hK
            replace hf : f < 16 := hf
            have hA := hC.1; have hN := hC.2.1; have hc := hC.2.2.1; have hres := hC.2.2.2.1; have oc := hC.2.2.2.2; clear hC
            have d0 := hD.1; have d1 := hD.2.1; have d2 := hD.2.2.1; have d3 := hD.2.2.2.1; clear hD
            have q0 : u 0 = .agg #[.int .i64 c.room, .slice ac1 c.items.length pc1, .slice ac2 c.senders.length pc2, .slice ac3 c.getters.length pc3, .bool c.closed] := d0
            have e0 := q0; clear q0
            clear d0
            have q1 : u 1 = .pointer (some ⟨b, 0, none⟩) := d1
            have e1 := q1; clear q1
            clear d1
            have q2 : ∃ x : Int, u 2 = .int .i64 x ∧ 0 ≤ x ∧ x < 6 := d2
            obtain ⟨x2, e2, q2a, q2b⟩ := q2
            clear d2
            have q3 : ∃ vr r x st uy ok, u 3 = .tuple #[vr, .int .i64 x, .int .i64 st, uy, .bool ok] ∧ ChanOwn w.heap.size w1.heap.size w1 vr r ∧ ChanFew 7 r := d3
            obtain ⟨vr3, r3, xx3, st3, uy3, ok3, e3, q3a, q3b⟩ := q3
            have w3 := q3a; obtain ⟨aq3_1, pq3_1, aq3_2, pq3_2, aq3_3, pq3_3, rfl, hx3⟩ := q3a; clear hx3
            clear d3
            simp only [putL, Act.put, List.setIfInBounds_toArray, List.set_cons_zero, List.set_cons_succ, e0, e1, e2, e3] at hK ⊢
            refine Closed.mk ?_
            go_simp
            exact hK.out _ _ ⟨hA.mono (by omega), hN, hc, hres, oc⟩ (World.grownBy.refl _ _) (by simp [mask, e3])
          · refine GoalL.mk (by rfl) (⟨fun _ _ _ _ _ h => h, fun _ _ _ _ _ _ h => h⟩) ?_
            intro f u w1 hf hC hD K hK
            replace hf : f < 16 := hf
            have hA := hC.1; have hN := hC.2.1; have hc := hC.2.2.1; have hres := hC.2.2.2.1; have oc := hC.2.2.2.2; clear hC
            have d0 := hD.1; have d1 := hD.2.1; have d2 := hD.2.2.1; have d3 := hD.2.2.2.1; have d4 := hD.2.2.2.2.1; clear hD
            have q0 : u 0 = .agg #[.int .i64 c.room, .slice ac1 c.items.length pc1, .slice ac2 c.senders.length pc2, .slice ac3 c.getters.length pc3, .bool c.closed] := d0
            have e0 := q0; clear q0
            clear d0
            have q1 : u 1 = .pointer (some ⟨b, 0, none⟩) := d1
            have e1 := q1; clear q1
            clear d1
            have q2 : ∃ x : Int, u 2 = .int .i64 x ∧ 0 ≤ x ∧ x < 6 := d2
            obtain ⟨x2, e2, q2a, q2b⟩ := q2
            clear d2
            have q3 : ∃ vr r x st uy ok, u 3 = .tuple #[vr, .int .i64 x, .int .i64 st, uy, .bool ok] ∧ ChanOwn w.heap.size w1.heap.size w1 vr r ∧ ChanFew 7 r := d3
            obtain ⟨vr3, r3, xx3, st3, uy3, ok3, e3, q3a, q3b⟩ := q3
            have w3 := q3a; obtain ⟨aq3_1, pq3_1, aq3_2, pq3_2, aq3_3, pq3_3, rfl, hx3⟩ := q3a; clear hx3
            clear d3
            have q4 : u 4 = u 3 := d4
            have e4 := q4; clear q4
            rw [e3] at e4
            clear d4
            simp only [putL, Act.put, List.setIfInBounds_toArray, List.set_cons_zero, List.set_cons_succ, e0, e1, e2, e3, e4] at hK ⊢
            refine Closed.mk ?_
            go_simp
            exact hK.out _ _ ⟨hA.mono (by omega), hN, hc, hres, oc⟩ (World.grownBy.refl _ _) (by simp [mask, tget, e4])
          · refine GoalL.mk (by rfl) (⟨fun _ _ _ _ _ h => h, fun _ _ _ _ _ _ h => h⟩) ?_
            intro f u w1 hf hC hD K hK
            replace hf : f < 16 := hf
            have hA := hC.1; have hN := hC.2.1; have hc := hC.2.2.1; have hres := hC.2.2.2.1; have oc := hC.2.2.2.2; clear hC
            have d0 := hD.1; have d1 := hD.2.1; have d2 := hD.2.2.1; have d3 := hD.2.2.2.1; have d4 := hD.2.2.2.2.1; clear hD
            have q0 : u 0 = .agg #[.int .i64 c.room, .slice ac1 c.items.length pc1, .slice ac2 c.senders.length pc2, .slice ac3 c.getters.length pc3, .bool c.closed] := d0
            have e0 := q0; clear q0
            clear d0
            have q1 : u 1 = .pointer (some ⟨b, 0, none⟩) := d1
            have e1 := q1; clear q1
            clear d1
            have q2 : ∃ x : Int, u 2 = .int .i64 x ∧ 0 ≤ x ∧ x < 6 := d2
            obtain ⟨x2, e2, q2a, q2b⟩ := q2
            clear d2
            have q3 : ∃ vr r x st uy ok, u 3 = .tuple #[vr, .int .i64 x, .int .i64 st, uy, .bool ok] ∧ ChanOwn w.heap.size w1.heap.size w1 vr r ∧ ChanFew 7 r := d3
            obtain ⟨vr3, r3, xx3, st3, uy3, ok3, e3, q3a, q3b⟩ := q3
            have w3 := q3a; obtain ⟨aq3_1, pq3_1, aq3_2, pq3_2, aq3_3, pq3_3, rfl, hx3⟩ := q3a; clear hx3
            clear d3
            have q4 : u 4 = u 3 := d4
            have e4 := q4; clear q4
            rw [e3] at e4
            clear d4
            simp only [putL, Act.put, List.setIfInBounds_toArray, List.set_cons_zero, List.set_cons_succ, e0, e1, e2, e3, e4] at hK ⊢
            refine Closed.mk ?_
            go_simp
            exact hK.out _ _ ⟨hA.mono (by omega), hN, hc, hres, oc⟩ (World.grownBy.refl _ _) (by simp [mask, tget, e4])
          · refine GoalL.mk (by rfl) (⟨fun _ _ _ _ _ h => h, fun _ _ _ _ _ _ h => h⟩) ?_
            intro f u w1 hf hC hD K hK
            replace hf : f < 16 := hf
            have hA := hC.1; have hN := hC.2.1; have hc := hC.2.2.1; have hres := hC.2.2.2.1; have oc := hC.2.2.2.2; clear hC
            have d0 := hD.1; have d1 := hD.2.1; have d2 := hD.2.2.1; have d3 := hD.2.2.2.1; have d4 := hD.2.2.2.2.1; clear hD
            have q0 : u 0 = .agg #[.int .i64 c.room, .slice ac1 c.items.length pc1, .slice ac2 c.senders.length pc2, .slice ac3 c.getters.length pc3, .bool c.closed] := d0
            have e0 := q0; clear q0
            clear d0
            have q1 : u 1 = .pointer (some ⟨b, 0, none⟩) := d1
            have e1 := q1; clear q1
            clear d1
            have q2 : ∃ x : Int, u 2 = .int .i64 x ∧ 0 ≤ x ∧ x < 6 := d2
            obtain ⟨x2, e2, q2a, q2b⟩ := q2
            clear d2
            have q3 : ∃ vr r x st uy ok, u 3 = .tuple #[vr, .int .i64 x, .int .i64 st, uy, .bool ok] ∧ ChanOwn w.heap.size w1.heap.size w1 vr r ∧ ChanFew 7 r := d3
            obtain ⟨vr3, r3, xx3, st3, uy3, ok3, e3, q3a, q3b⟩ := q3
            have w3 := q3a; obtain ⟨aq3_1, pq3_1, aq3_2, pq3_2, aq3_3, pq3_3, rfl, hx3⟩ := q3a; clear hx3
            clear d3
            have q4 : u 4 = u 3 := d4
            have e4 := q4; clear q4
            rw [e3] at e4
            clear d4
            simp only [putL, Act.put, List.setIfInBounds_toArray, List.set_cons_zero, List.set_cons_succ, e0, e1, e2, e3, e4] at hK ⊢
            refine Closed.mk ?_
            go_simp
            exact hK.out _ _ ⟨hA.mono (by omega), hN, hc, hres, oc⟩ (World.grownBy.refl _ _) (by simp [mask, tget, e4])
          · refine GoalL.mk (by rfl) (⟨fun _ _ _ _ _ h => h, fun _ _ _ _ _ _ h => h⟩) ?_
            intro f u w1 hf hC hD K hK
            replace hf : f < 16 := hf
            have hA := hC.1; have hN := hC.2.1; have hc := hC.2.2.1; have hres := hC.2.2.2.1; have oc := hC.2.2.2.2; clear hC
            have d0 := hD.1; have d1 := hD.2.1; have d2 := hD.2.2.1; have d3 := hD.2.2.2.1; have d4 := hD.2.2.2.2.1; clear hD
            have q0 : u 0 = .agg #[.int .i64 c.room, .slice ac1 c.items.length pc1, .slice ac2 c.senders.length pc2, .slice ac3 c.getters.length pc3, .bool c.closed] := d0
            have e0 := q0; clear q0
            clear d0
            have q1 : u 1 = .pointer (some ⟨b, 0, none⟩) := d1
            have e1 := q1; clear q1
            clear d1
            have q2 : ∃ x : Int, u 2 = .int .i64 x ∧ 0 ≤ x ∧ x < 6 := d2
            obtain ⟨x2, e2, q2a, q2b⟩ := q2
            clear d2
            have q3 : ∃ vr r x st uy ok, u 3 = .tuple #[vr, .int .i64 x, .int .i64 st, uy, .bool ok] ∧ ChanOwn w.heap.size w1.heap.size w1 vr r ∧ ChanFew 7 r := d3
            obtain ⟨vr3, r3, xx3, st3, uy3, ok3, e3, q3a, q3b⟩ := q3
            have w3 := q3a; obtain ⟨aq3_1, pq3_1, aq3_2, pq3_2, aq3_3, pq3_3, rfl, hx3⟩ := q3a; clear hx3
            clear d3
            have q4 : u 4 = u 3 := d4
            have e4 := q4; clear q4
            rw [e3] at e4
            clear d4
            simp only [putL, Act.put, List.setIfInBounds_toArray, List.set_cons_zero, List.set_cons_succ, e0, e1, e2, e3, e4] at hK ⊢
            refine Closed.mk ?_
            go_simp
            exact hK.out _ _ ⟨hA.mono (by omega), hN, hc, hres, oc⟩ (World.grownBy.refl _ _) (by simp [mask, tget, e4])
          · refine GoalL.mk (by rfl) (⟨fun _ _ _ _ _ h => h, fun _ _ _ _ _ _ h => h⟩) ?_
            intro f u w1 hf hC hD K hK
            replace hf : f < 16 := hf
            have hA := hC.1; have hN := hC.2.1; have hc := hC.2.2.1; have hres := hC.2.2.2.1; have oc := hC.2.2.2.2; clear hC
            have d0 := hD.1; have d1 := hD.2.1; have d2 := hD.2.2.1; have d3 := hD.2.2.2.1; have d4 := hD.2.2.2.2.1; clear hD
            have q0 : u 0 = .agg #[.int .i64 c.room, .slice ac1 c.items.length pc1, .slice ac2 c.senders.length pc2, .slice ac3 c.getters.length pc3, .bool c.closed] := d0
            have e0 := q0; clear q0
            clear d0
            have q1 : u 1 = .pointer (some ⟨b, 0, none⟩) := d1
            have e1 := q1; clear q1
            clear d1
            have q2 : ∃ x : Int, u 2 = .int .i64 x ∧ 0 ≤ x ∧ x < 6 := d2
            obtain ⟨x2, e2, q2a, q2b⟩ := q2
            clear d2
            have q3 : ∃ vr r x st uy ok, u 3 = .tuple #[vr, .int .i64 x, .int .i64 st, uy, .bool ok] ∧ ChanOwn w.heap.size w1.heap.size w1 vr r ∧ ChanFew 7 r := d3
            obtain ⟨vr3, r3, xx3, st3, uy3, ok3, e3, q3a, q3b⟩ := q3
            have w3 := q3a; obtain ⟨aq3_1, pq3_1, aq3_2, pq3_2, aq3_3, pq3_3, rfl, hx3⟩ := q3a; clear hx3
            clear d3
            have q4 : u 4 = u 3 := d4
            have e4 := q4; clear q4
            rw [e3] at e4
            clear d4
            simp only [putL, Act.put, List.setIfInBounds_toArray, List.set_cons_zero, List.set_cons_succ, e0, e1, e2, e3, e4] at hK ⊢
            refine Closed.mk ?_
            go_simp
            exact hK.out _ _ ⟨hA.mono (by omega), hN, hc, hres, oc⟩ (World.grownBy.refl _ _) (by simp [mask, tget, e4])
          · refine GoalL.mk (by rfl) (⟨fun _ _ _ _ hR ⟨g, h1, h2, cs, h3, h4⟩ => ⟨g, h1, h2, cs, grown_at hR h3 (by omega), h4⟩, fun _ _ _ _ _ hR ⟨g, h1, h2, cs, h3, h4⟩ => (boxW_shape h3 hR).elim fun cs' h => ⟨g, h1, h2, cs', h.1, by rw [h.2, h4]⟩⟩) ?_
            intro f u w1 hf hC hD K hK
            replace hf : f < 16 := hf
            have hA := hC.1; have hN := hC.2.1; have hc := hC.2.2.1; have hres := hC.2.2.2.1; have oc := hC.2.2.2.2; clear hC
            clear hD
            simp only [putL, Act.put, List.setIfInBounds_toArray, List.set_cons_zero, List.set_cons_succ] at hK ⊢
            refine Closed.mk ?_
            go_simp
            exact hK.out _ _ ⟨(hA.alloc _).mono (by omega), Nat.le_trans hN (alloc_le _ _), (heap_up hc), (heap_up hres), (oc.alloc _)⟩ (World.grownBy_alloc _ _ _) ⟨_, rfl, hN, _, heap_at _ _, rfl⟩
          · refine GoalL.mk (by rfl) (⟨fun u v w w' hR ⟨g, cs, h0, h1, h2, h3⟩ => ⟨g, cs, h0, h1, h2, grown_at hR h3 (by have := hlt; omega)⟩, fun h => by cases h⟩) ?_
            intro f u w1 hf hC hD K hK
            replace hf : f < 16 := hf
            have hA := hC.1; have hN := hC.2.1; have hc := hC.2.2.1; have hres := hC.2.2.2.1; have oc := hC.2.2.2.2; clear hC
            have d10 := hD.1; have d0 := hD.2.1; have d1 := hD.2.2.1; have d2 := hD.2.2.2.1; have d3 := hD.2.2.2.2.1; have d4 := hD.2.2.2.2.2.1; have d5 := hD.2.2.2.2.2.2.1; clear hD
            have q10 : ∃ g, u 10 = .pointer (some ⟨g, 0, none⟩) ∧ w21.heap.size ≤ g ∧ ∃ cs : Array Value, w1.heap[g]? = some (.cells cs 25 (0, 0)) ∧ cs.size = 5 := d10
            obtain ⟨g10, e10, q10a, cs10, q10b, q10c⟩ := q10
            clear d10
            have q0 : u 0 = .agg #[.int .i64 c.room, .slice ac1 c.items.length pc1, .slice ac2 c.senders.length pc2, .slice ac3 c.getters.length pc3, .bool c.closed] := d0
            have e0 := q0; clear q0
            clear d0
            have q1 : u 1 = .pointer (some ⟨b, 0, none⟩) := d1
            have e1 := q1; clear q1
            clear d1
            have q2 : ∃ x : Int, u 2 = .int .i64 x ∧ 0 ≤ x ∧ x < 6 := d2
            obtain ⟨x2, e2, q2a, q2b⟩ := q2
            clear d2
            have q3 : ∃ vr r x st uy ok, u 3 = .tuple #[vr, .int .i64 x, .int .i64 st, uy, .bool ok] ∧ ChanOwn w.heap.size w1.heap.size w1 vr r ∧ ChanFew 7 r := d3
            obtain ⟨vr3, r3, xx3, st3, uy3, ok3, e3, q3a, q3b⟩ := q3
            have w3 := q3a; obtain ⟨aq3_1, pq3_1, aq3_2, pq3_2, aq3_3, pq3_3, rfl, hx3⟩ := q3a; clear hx3
            clear d3
            have q4 : u 4 = u 3 := d4
            have e4 := q4; clear q4
            rw [e3] at e4
            clear d4
            have q5 : u 5 = tget (u 4) 0 := d5
            have e5 := q5; clear q5
            rw [e4] at e5
            simp only [tget] at e5
            replace e5 : u 5 = (.agg #[.int .i64 r3.room, .slice aq3_1 r3.items.length pq3_1, .slice aq3_2 r3.senders.length pq3_2, .slice aq3_3 r3.getters.length pq3_3, .bool r3.closed]) := e5
            clear d5
            simp only [putL, Act.put, List.setIfInBounds_toArray, List.set_cons_zero, List.set_cons_succ, e10, e0, e1, e2, e3, e4, e5] at hK ⊢
            obtain ⟨z0, z1, z2, z3, z4, rfl⟩ := cells5 q10c
            obtain ⟨c9_0, c9_1, c9_2, c9_3, c9_4, f9_0, f9_1, f9_2, f9_3, f9_4⟩ := box5 q10b
            refine Closed.mk ?_
            go_simp
            exact hK.out undef _ ⟨(((((hA.set (a := ⟨g10, 0, none⟩) (show w.heap.size ≤ g10 by omega) (.int .i64 r3.room)).set (a := ⟨g10, 1, none⟩) (show w.heap.size ≤ g10 by omega) (.slice aq3_1 r3.items.length pq3_1)).set (a := ⟨g10, 2, none⟩) (show w.heap.size ≤ g10 by omega) (.slice aq3_2 r3.senders.length pq3_2)).set (a := ⟨g10, 3, none⟩) (show w.heap.size ≤ g10 by omega) (.slice aq3_3 r3.getters.length pq3_3)).set (a := ⟨g10, 4, none⟩) (show w.heap.size ≤ g10 by omega) (.bool r3.closed)).mono (by omega), (by simp only [szS]; exact hN), (set_off (a := ⟨g10, 4, none⟩) (set_off (a := ⟨g10, 3, none⟩) (set_off (a := ⟨g10, 2, none⟩) (set_off (a := ⟨g10, 1, none⟩) (set_off (a := ⟨g10, 0, none⟩) hc (show g10 ≠ _ by omega) (.int .i64 r3.room)) (show g10 ≠ _ by omega) (.slice aq3_1 r3.items.length pq3_1)) (show g10 ≠ _ by omega) (.slice aq3_2 r3.senders.length pq3_2)) (show g10 ≠ _ by omega) (.slice aq3_3 r3.getters.length pq3_3)) (show g10 ≠ _ by omega) (.bool r3.closed)), (set_off (a := ⟨g10, 4, none⟩) (set_off (a := ⟨g10, 3, none⟩) (set_off (a := ⟨g10, 2, none⟩) (set_off (a := ⟨g10, 1, none⟩) (set_off (a := ⟨g10, 0, none⟩) hres (show g10 ≠ _ by omega) (.int .i64 r3.room)) (show g10 ≠ _ by omega) (.slice aq3_1 r3.items.length pq3_1)) (show g10 ≠ _ by omega) (.slice aq3_2 r3.senders.length pq3_2)) (show g10 ≠ _ by omega) (.slice aq3_3 r3.getters.length pq3_3)) (show g10 ≠ _ by omega) (.bool r3.closed)), (((((oc.setB g10 0 q10b (by decide) (.int .i64 r3.room)).setB g10 1 (set_at (a := ⟨g10, 0, none⟩) q10b rfl rfl (.int .i64 r3.room)) (by decide) (.slice aq3_1 r3.items.length pq3_1)).setB g10 2 (set_at (a := ⟨g10, 1, none⟩) (set_at (a := ⟨g10, 0, none⟩) q10b rfl rfl (.int .i64 r3.room)) rfl rfl (.slice aq3_1 r3.items.length pq3_1)) (by decide) (.slice aq3_2 r3.senders.length pq3_2)).setB g10 3 (set_at (a := ⟨g10, 2, none⟩) (set_at (a := ⟨g10, 1, none⟩) (set_at (a := ⟨g10, 0, none⟩) q10b rfl rfl (.int .i64 r3.room)) rfl rfl (.slice aq3_1 r3.items.length pq3_1)) rfl rfl (.slice aq3_2 r3.senders.length pq3_2)) (by decide) (.slice aq3_3 r3.getters.length pq3_3)).setB g10 4 (set_at (a := ⟨g10, 3, none⟩) (set_at (a := ⟨g10, 2, none⟩) (set_at (a := ⟨g10, 1, none⟩) (set_at (a := ⟨g10, 0, none⟩) q10b rfl rfl (.int .i64 r3.room)) rfl rfl (.slice aq3_1 r3.items.length pq3_1)) rfl rfl (.slice aq3_2 r3.senders.length pq3_2)) rfl rfl (.slice aq3_3 r3.getters.length pq3_3)) (by decide) (.bool r3.closed))⟩ ⟨g10, _, _, q10a, q10b, (set_at (a := ⟨g10, 4, none⟩) (set_at (a := ⟨g10, 3, none⟩) (set_at (a := ⟨g10, 2, none⟩) (set_at (a := ⟨g10, 1, none⟩) (set_at (a := ⟨g10, 0, none⟩) q10b rfl rfl (.int .i64 r3.room)) rfl rfl (.slice aq3_1 r3.items.length pq3_1)) rfl rfl (.slice aq3_2 r3.senders.length pq3_2)) rfl rfl (.slice aq3_3 r3.getters.length pq3_3)) rfl rfl (.bool r3.closed)), rfl, (grown_set (a := ⟨g10, 4, none⟩) (grown_set (a := ⟨g10, 3, none⟩) (grown_set (a := ⟨g10, 2, none⟩) (grown_set (a := ⟨g10, 1, none⟩) (grown_set (a := ⟨g10, 0, none⟩) (World.grownBy.refl _ _) rfl (.int .i64 r3.room)) rfl (.slice aq3_1 r3.items.length pq3_1)) rfl (.slice aq3_2 r3.senders.length pq3_2)) rfl (.slice aq3_3 r3.getters.length pq3_3)) rfl (.bool r3.closed))⟩ ⟨g10, _, q10a, (by simp [mask, e10]), (by first | (simp [mask, e5]; done) | (simp [mask, e5]; rfl)), (set_at (a := ⟨g10, 4, none⟩) (set_at (a := ⟨g10, 3, none⟩) (set_at (a := ⟨g10, 2, none⟩) (set_at (a := ⟨g10, 1, none⟩) (set_at (a := ⟨g10, 0, none⟩) q10b rfl rfl (.int .i64 r3.room)) rfl rfl (.slice aq3_1 r3.items.length pq3_1)) rfl rfl (.slice aq3_2 r3.senders.length pq3_2)) rfl rfl (.slice aq3_3 r3.getters.length pq3_3)) rfl rfl (.bool r3.closed))⟩
          · refine GoalL.mk (by rfl) (⟨fun _ _ _ _ _ h => h, fun _ _ _ _ _ _ h => h⟩) ?_
            intro f u w1 hf hC hD K hK
            replace hf : f < 16 := hf
            have hA := hC.1; have hN := hC.2.1; have hc := hC.2.2.1; have hres := hC.2.2.2.1; have oc := hC.2.2.2.2; clear hC
            have d0 := hD.1; have d1 := hD.2.1; have d2 := hD.2.2.1; have d3 := hD.2.2.2.1; have d4 := hD.2.2.2.2.1; have d6 := hD.2.2.2.2.2.1; clear hD
            have q0 : u 0 = .agg #[.int .i64 c.room, .slice ac1 c.items.length pc1, .slice ac2 c.senders.length pc2, .slice ac3 c.getters.length pc3, .bool c.closed] := d0
            have e0 := q0; clear q0
            clear d0
            have q1 : u 1 = .pointer (some ⟨b, 0, none⟩) := d1
            have e1 := q1; clear q1
            clear d1
            have q2 : ∃ x : Int, u 2 = .int .i64 x ∧ 0 ≤ x ∧ x < 6 := d2
            obtain ⟨x2, e2, q2a, q2b⟩ := q2
            clear d2
            have q3 : ∃ vr r x st uy ok, u 3 = .tuple #[vr, .int .i64 x, .int .i64 st, uy, .bool ok] ∧ ChanOwn w.heap.size w1.heap.size w1 vr r ∧ ChanFew 7 r := d3
            obtain ⟨vr3, r3, xx3, st3, uy3, ok3, e3, q3a, q3b⟩ := q3
            have w3 := q3a; obtain ⟨aq3_1, pq3_1, aq3_2, pq3_2, aq3_3, pq3_3, rfl, hx3⟩ := q3a; clear hx3
            clear d3
            have q4 : u 4 = u 3 := d4
            have e4 := q4; clear q4
            rw [e3] at e4
            clear d4
            have q6 : u 6 = tget (u 4) 1 := d6
            have e6 := q6; clear q6
            rw [e4] at e6
            simp only [tget] at e6
            replace e6 : u 6 = .int .i64 xx3 := e6
            clear d6
            simp only [putL, Act.put, List.setIfInBounds_toArray, List.set_cons_zero, List.set_cons_succ, e0, e1, e2, e3, e4, e6] at hK ⊢
            refine Closed.mk ?_
            go_simp
            exact hK.out _ _ ⟨hA.mono (by omega), hN, hc, hres, oc⟩ (World.grownBy.refl _ _) (by simp [mask, e6])
          · refine GoalL.mk (by rfl) (⟨fun _ _ _ _ _ h => h, fun _ _ _ _ _ _ h => h⟩) ?_
            intro f u w1 hf hC hD K hK
            replace hf : f < 16 := hf
            have hA := hC.1; have hN := hC.2.1; have hc := hC.2.2.1; have hres := hC.2.2.2.1; have oc := hC.2.2.2.2; clear hC
            have d0 := hD.1; have d1 := hD.2.1; have d2 := hD.2.2.1; have d3 := hD.2.2.2.1; have d4 := hD.2.2.2.2.1; have d7 := hD.2.2.2.2.2.1; clear hD
            have q0 : u 0 = .agg #[.int .i64 c.room, .slice ac1 c.items.length pc1, .slice ac2 c.senders.length pc2, .slice ac3 c.getters.length pc3, .bool c.closed] := d0
            have e0 := q0; clear q0
            clear d0
            have q1 : u 1 = .pointer (some ⟨b, 0, none⟩) := d1
            have e1 := q1; clear q1
            clear d1
            have q2 : ∃ x : Int, u 2 = .int .i64 x ∧ 0 ≤ x ∧ x < 6 := d2
            obtain ⟨x2, e2, q2a, q2b⟩ := q2
            clear d2
            have q3 : ∃ vr r x st uy ok, u 3 = .tuple #[vr, .int .i64 x, .int .i64 st, uy, .bool ok] ∧ ChanOwn w.heap.size w1.heap.size w1 vr r ∧ ChanFew 7 r := d3
            obtain ⟨vr3, r3, xx3, st3, uy3, ok3, e3, q3a, q3b⟩ := q3
            have w3 := q3a; obtain ⟨aq3_1, pq3_1, aq3_2, pq3_2, aq3_3, pq3_3, rfl, hx3⟩ := q3a; clear hx3
            clear d3
            have q4 : u 4 = u 3 := d4
            have e4 := q4; clear q4
            rw [e3] at e4
            clear d4
            have q7 : u 7 = tget (u 4) 2 := d7
            have e7 := q7; clear q7
            rw [e4] at e7
            simp only [tget] at e7
            replace e7 : u 7 = .int .i64 st3 := e7
            clear d7
            simp only [putL, Act.put, List.setIfInBounds_toArray, List.set_cons_zero, List.set_cons_succ, e0, e1, e2, e3, e4, e7] at hK ⊢
            refine Closed.mk ?_
            go_simp
            exact hK.out _ _ ⟨hA.mono (by omega), hN, hc, hres, oc⟩ (World.grownBy.refl _ _) (by simp [mask, e7])
          · refine GoalL.mk (by rfl) (⟨fun _ _ _ _ _ h => h, fun _ _ _ _ _ _ h => h⟩) ?_
            intro f u w1 hf hC hD K hK
            replace hf : f < 16 := hf
            have hA := hC.1; have hN := hC.2.1; have hc := hC.2.2.1; have hres := hC.2.2.2.1; have oc := hC.2.2.2.2; clear hC
            have d0 := hD.1; have d1 := hD.2.1; have d2 := hD.2.2.1; have d3 := hD.2.2.2.1; have d4 := hD.2.2.2.2.1; have d8 := hD.2.2.2.2.2.1; clear hD
            have q0 : u 0 = .agg #[.int .i64 c.room, .slice ac1 c.items.length pc1, .slice ac2 c.senders.length pc2, .slice ac3 c.getters.length pc3, .bool c.closed] := d0
            have e0 := q0; clear q0
            clear d0
            have q1 : u 1 = .pointer (some ⟨b, 0, none⟩) := d1
            have e1 := q1; clear q1
            clear d1
            have q2 : ∃ x : Int, u 2 = .int .i64 x ∧ 0 ≤ x ∧ x < 6 := d2
            obtain ⟨x2, e2, q2a, q2b⟩ := q2
            clear d2
            have q3 : ∃ vr r x st uy ok, u 3 = .tuple #[vr, .int .i64 x, .int .i64 st, uy, .bool ok] ∧ ChanOwn w.heap.size w1.heap.size w1 vr r ∧ ChanFew 7 r := d3
            obtain ⟨vr3, r3, xx3, st3, uy3, ok3, e3, q3a, q3b⟩ := q3
            have w3 := q3a; obtain ⟨aq3_1, pq3_1, aq3_2, pq3_2, aq3_3, pq3_3, rfl, hx3⟩ := q3a; clear hx3
            clear d3
            have q4 : u 4 = u 3 := d4
            have e4 := q4; clear q4
            rw [e3] at e4
            clear d4
            have q8 : u 8 = tget (u 4) 3 := d8
            have e8 := q8; clear q8
            rw [e4] at e8
            simp only [tget] at e8
            replace e8 : u 8 = uy3 := e8
            clear d8
            simp only [putL, Act.put, List.setIfInBounds_toArray, List.set_cons_zero, List.set_cons_succ, e0, e1, e2, e3, e4, e8] at hK ⊢
            refine Closed.mk ?_
            go_simp
            exact hK.out _ _ ⟨hA.mono (by omega), hN, hc, hres, oc⟩ (World.grownBy.refl _ _) (by simp [mask, e8])
          · refine GoalL.mk (by rfl) (⟨fun _ _ _ _ _ h => h, fun _ _ _ _ _ _ h => h⟩) ?_
            intro f u w1 hf hC hD K hK
            replace hf : f < 16 := hf
            have hA := hC.1; have hN := hC.2.1; have hc := hC.2.2.1; have hres := hC.2.2.2.1; have oc := hC.2.2.2.2; clear hC
            have d0 := hD.1; have d1 := hD.2.1; have d2 := hD.2.2.1; have d3 := hD.2.2.2.1; have d4 := hD.2.2.2.2.1; have d9 := hD.2.2.2.2.2.1; clear hD
            have q0 : u 0 = .agg #[.int .i64 c.room, .slice ac1 c.items.length pc1, .slice ac2 c.senders.length pc2, .slice ac3 c.getters.length pc3, .bool c.closed] := d0
            have e0 := q0; clear q0
            clear d0
            have q1 : u 1 = .pointer (some ⟨b, 0, none⟩) := d1
            have e1 := q1; clear q1
            clear d1
            have q2 : ∃ x : Int, u 2 = .int .i64 x ∧ 0 ≤ x ∧ x < 6 := d2
            obtain ⟨x2, e2, q2a, q2b⟩ := q2
            clear d2
            have q3 : ∃ vr r x st uy ok, u 3 = .tuple #[vr, .int .i64 x, .int .i64 st, uy, .bool ok] ∧ ChanOwn w.heap.size w1.heap.size w1 vr r ∧ ChanFew 7 r := d3
            obtain ⟨vr3, r3, xx3, st3, uy3, ok3, e3, q3a, q3b⟩ := q3
            have w3 := q3a; obtain ⟨aq3_1, pq3_1, aq3_2, pq3_2, aq3_3, pq3_3, rfl, hx3⟩ := q3a; clear hx3
            clear d3
            have q4 : u 4 = u 3 := d4
            have e4 := q4; clear q4
            rw [e3] at e4
            clear d4
            have q9 : u 9 = tget (u 4) 4 := d9
            have e9 := q9; clear q9
            rw [e4] at e9
            simp only [tget] at e9
            replace e9 : u 9 = .bool ok3 := e9
            clear d9
            simp only [putL, Act.put, List.setIfInBounds_toArray, List.set_cons_zero, List.set_cons_succ, e0, e1, e2, e3, e4, e9] at hK ⊢
            refine Closed.mk ?_
            go_simp
            exact hK.out _ _ ⟨hA.mono (by omega), hN, hc, hres, oc⟩ (World.grownBy.refl _ _) (by simp [mask, e9])
          intro u w22 hC hD
          have hA := hC.1; have hN := hC.2.1; have hc := hC.2.2.1; have hres := hC.2.2.2.1; have oc := hC.2.2.2.2; clear hC
          have d0 := hD.1; have d1 := hD.2.1; have d2 := hD.2.2.1; have d3 := hD.2.2.2.1; have d4 := hD.2.2.2.2.1; have d5 := hD.2.2.2.2.2.1; have d6 := hD.2.2.2.2.2.2.1; have d7 := hD.2.2.2.2.2.2.2.1; have d8 := hD.2.2.2.2.2.2.2.2.1; have d9 := hD.2.2.2.2.2.2.2.2.2.1; have d10 := hD.2.2.2.2.2.2.2.2.2.2.1; have d11 := hD.2.2.2.2.2.2.2.2.2.2.2.1; have d12 := hD.2.2.2.2.2.2.2.2.2.2.2.2.1; have d13 := hD.2.2.2.2.2.2.2.2.2.2.2.2.2.1; have d14 := hD.2.2.2.2.2.2.2.2.2.2.2.2.2.2.1; have d15 := hD.2.2.2.2.2.2.2.2.2.2.2.2.2.2.2.1; clear hD
          have q0 : u 0 = .agg #[.int .i64 c.room, .slice ac1 c.items.length pc1, .slice ac2 c.senders.length pc2, .slice ac3 c.getters.length pc3, .bool c.closed] := d0
          have e0 := q0; clear q0
          clear d0
          have q1 : u 1 = .pointer (some ⟨b, 0, none⟩) := d1
          have e1 := q1; clear q1
          clear d1
          have q2 : ∃ x : Int, u 2 = .int .i64 x ∧ 0 ≤ x ∧ x < 6 := d2
          obtain ⟨x2, e2, q2a, q2b⟩ := q2
          clear d2
          have q3 : ∃ vr r x st uy ok, u 3 = .tuple #[vr, .int .i64 x, .int .i64 st, uy, .bool ok] ∧ ChanOwn w.heap.size w22.heap.size w22 vr r ∧ ChanFew 7 r := d3
          obtain ⟨vr3, r3, xx3, st3, uy3, ok3, e3, q3a, q3b⟩ := q3
          have w3 := q3a; obtain ⟨aq3_1, pq3_1, aq3_2, pq3_2, aq3_3, pq3_3, rfl, hx3⟩ := q3a; clear hx3
          clear d3
          have q4 : u 4 = u 3 := d4
          have e4 := q4; clear q4
          rw [e3] at e4
          clear d4
          have q5 : u 5 = tget (u 4) 0 := d5
          have e5 := q5; clear q5
          rw [e4] at e5
          simp only [tget] at e5
          replace e5 : u 5 = (.agg #[.int .i64 r3.room, .slice aq3_1 r3.items.length pq3_1, .slice aq3_2 r3.senders.length pq3_2, .slice aq3_3 r3.getters.length pq3_3, .bool r3.closed]) := e5
          clear d5
          have q6 : u 6 = tget (u 4) 1 := d6
          have e6 := q6; clear q6
          rw [e4] at e6
          simp only [tget] at e6
          replace e6 : u 6 = .int .i64 xx3 := e6
          clear d6
          have q7 : u 7 = tget (u 4) 2 := d7
          have e7 := q7; clear q7
          rw [e4] at e7
          simp only [tget] at e7
          replace e7 : u 7 = .int .i64 st3 := e7
          clear d7
          have q8 : u 8 = tget (u 4) 3 := d8
          have e8 := q8; clear q8
          rw [e4] at e8
          simp only [tget] at e8
          replace e8 : u 8 = uy3 := e8
          clear d8
          have q9 : u 9 = tget (u 4) 4 := d9
          have e9 := q9; clear q9
          rw [e4] at e9
          simp only [tget] at e9
          replace e9 : u 9 = .bool ok3 := e9
          clear d9
          have q10 : ∃ g, u 10 = .pointer (some ⟨g, 0, none⟩) ∧ w21.heap.size ≤ g ∧ ∃ cs : Array Value, w22.heap[g]? = some (.cells cs 25 (0, 0)) ∧ cs.size = 5 := d10
          obtain ⟨g10, e10, q10a, cs10, q10b, q10c⟩ := q10
          clear d10
          have q11 : ∃ g cs, w21.heap.size ≤ g ∧ u 10 = .pointer (some ⟨g, 0, none⟩) ∧ u 5 = .agg cs ∧ w22.heap[g]? = some (.cells cs 25 (0, 0)) := d11
          clear d11
          have q12 : u 12 = u 6 := d12
          have e12 := q12; clear q12
          rw [e6] at e12
          clear d12
          have q13 : u 13 = u 7 := d13
          have e13 := q13; clear q13
          rw [e7] at e13
          clear d13
          have q14 : u 14 = u 8 := d14
          have e14 := q14; clear q14
          rw [e8] at e14
          clear d14
          have q15 : u 15 = u 9 := d15
          have e15 := q15; clear q15
          rw [e9] at e15
          clear d15
          replace hA : Dr w b (((N + 3 + 18 * (5 - k)) + 1) + (16 - (16 - 16))) w22 := hA
          have A22 : Hid (Dr w b ((N + 3 + 18 * (5 - k)) + 17) w22) := hA.mono (by omega)
          have N22 := hN; have S22 := hA.size
          have Xc_22 := Lib.hid hc; clear hc
          have Xres_22 := Lib.hid hres; clear hres
          have Oc_22 := Lib.hid oc; clear oc
          obtain ⟨gg, cc, hg0, hg1, hg2, hg3⟩ := q11
          clear hg0; have hg4 := same_tuple e10 hg1; have hg5 := same_agg e5 hg2
          rw [hg4, hg5] at hg3
          clear hg1 hg2 hg4 hg5
          have Xnew_22 := Lib.hid hg3; clear hg3 q10b q10c
          have Oq3__22 := Lib.hid w3; clear w3
          have HV3 := Lib.hid q3b; clear q3b
          obtain ⟨cc22_0, cc22_1, cc22_2, cc22_3, cc22_4, fc22_0, fc22_1, fc22_2, fc22_3, fc22_4⟩ := box5 Xc_22.out; have lc22 := heap_lt Xc_22.out
          obtain ⟨cres22_0, cres22_1, cres22_2, cres22_3, cres22_4, fres22_0, fres22_1, fres22_2, fres22_3, fres22_4⟩ := box5 Xres_22.out; have lres22 := heap_lt Xres_22.out
          obtain ⟨cnew22_0, cnew22_1, cnew22_2, cnew22_3, cnew22_4, fnew22_0, fnew22_1, fnew22_2, fnew22_3, fnew22_4⟩ := box5 Xnew_22.out; have lnew22 := heap_lt Xnew_22.out
          clear hA hN
          simp only [putL, Act.put, List.setIfInBounds_toArray, List.set_cons_zero, List.set_cons_succ, e0, e1, e2, e3, e4, e5, e6, e7, e8, e9, e10, e12, e13, e14, e15]
          refine Closed.mk ?_
          refine wpAnyH_done (by kernel_rfl) ?_ _
          cases ok3
          · go_wp2
            go_roundw
            case rel => exact ⟨k - 1, c, _, _, _, _, _, _, by omega, by go_num, Xc_22.out, Xres_22.out, Oc_22.out.tight, VC.out, A22.out.mono (by omega), by first | omega | (simp only [szA, szS, szD]; omega)⟩
            case measure => simp [intOf]; omega
          · go_wp2
            go_roundw
            case rel => exact ⟨k - 1, r3, _, _, _, _, _, _, by omega, by go_num, (set_at (a := ⟨w2.heap.size, 4, none⟩) (set_at (a := ⟨w2.heap.size, 3, none⟩) (set_at (a := ⟨w2.heap.size, 2, none⟩) (set_at (a := ⟨w2.heap.size, 1, none⟩) (set_at (a := ⟨w2.heap.size, 0, none⟩) Xc_22.out rfl rfl (.int .i64 r3.room)) rfl rfl (.slice aq3_1 r3.items.length pq3_1)) rfl rfl (.slice aq3_2 r3.senders.length pq3_2)) rfl rfl (.slice aq3_3 r3.getters.length pq3_3)) rfl rfl (.bool r3.closed)), (set_off (a := ⟨w2.heap.size, 4, none⟩) (set_off (a := ⟨w2.heap.size, 3, none⟩) (set_off (a := ⟨w2.heap.size, 2, none⟩) (set_off (a := ⟨w2.heap.size, 1, none⟩) (set_off (a := ⟨w2.heap.size, 0, none⟩) Xres_22.out (by first | omega | (simp only [szA, szS, szD, World.heap_drewN] at * <;> omega)) (.int .i64 r3.room)) (by first | omega | (simp only [szA, szS, szD, World.heap_drewN] at * <;> omega)) (.slice aq3_1 r3.items.length pq3_1)) (by first | omega | (simp only [szA, szS, szD, World.heap_drewN] at * <;> omega)) (.slice aq3_2 r3.senders.length pq3_2)) (by first | omega | (simp only [szA, szS, szD, World.heap_drewN] at * <;> omega)) (.slice aq3_3 r3.getters.length pq3_3)) (by first | omega | (simp only [szA, szS, szD, World.heap_drewN] at * <;> omega)) (.bool r3.closed)), (((((Oq3__22.out.setB (w2.heap.size) 0 Xc_22.out (by decide) (.int .i64 r3.room)).setB (w2.heap.size) 1 (set_at (a := ⟨w2.heap.size, 0, none⟩) Xc_22.out rfl rfl (.int .i64 r3.room)) (by decide) (.slice aq3_1 r3.items.length pq3_1)).setB (w2.heap.size) 2 (set_at (a := ⟨w2.heap.size, 1, none⟩) (set_at (a := ⟨w2.heap.size, 0, none⟩) Xc_22.out rfl rfl (.int .i64 r3.room)) rfl rfl (.slice aq3_1 r3.items.length pq3_1)) (by decide) (.slice aq3_2 r3.senders.length pq3_2)).setB (w2.heap.size) 3 (set_at (a := ⟨w2.heap.size, 2, none⟩) (set_at (a := ⟨w2.heap.size, 1, none⟩) (set_at (a := ⟨w2.heap.size, 0, none⟩) Xc_22.out rfl rfl (.int .i64 r3.room)) rfl rfl (.slice aq3_1 r3.items.length pq3_1)) rfl rfl (.slice aq3_2 r3.senders.length pq3_2)) (by decide) (.slice aq3_3 r3.getters.length pq3_3)).setB (w2.heap.size) 4 (set_at (a := ⟨w2.heap.size, 3, none⟩) (set_at (a := ⟨w2.heap.size, 2, none⟩) (set_at (a := ⟨w2.heap.size, 1, none⟩) (set_at (a := ⟨w2.heap.size, 0, none⟩) Xc_22.out rfl rfl (.int .i64 r3.room)) rfl rfl (.slice aq3_1 r3.items.length pq3_1)) rfl rfl (.slice aq3_2 r3.senders.length pq3_2)) rfl rfl (.slice aq3_3 r3.getters.length pq3_3)) (by decide) (.bool r3.closed)).tight, HV3.out, (((((A22.out.set (a := ⟨w2.heap.size, 0, none⟩) (by first | omega | (simp only [szA, szS, szD, World.heap_drewN] at * <;> omega)) (.int .i64 r3.room)).set (a := ⟨w2.heap.size, 1, none⟩) (by first | omega | (simp only [szA, szS, szD, World.heap_drewN] at * <;> omega)) (.slice aq3_1 r3.items.length pq3_1)).set (a := ⟨w2.heap.size, 2, none⟩) (by first | omega | (simp only [szA, szS, szD, World.heap_drewN] at * <;> omega)) (.slice aq3_2 r3.senders.length pq3_2)).set (a := ⟨w2.heap.size, 3, none⟩) (by first | omega | (simp only [szA, szS, szD, World.heap_drewN] at * <;> omega)) (.slice aq3_3 r3.getters.length pq3_3)).set (a := ⟨w2.heap.size, 4, none⟩) (by first | omega | (simp only [szA, szS, szD, World.heap_drewN] at * <;> omega)) (.bool r3.closed)).mono (by omega), by first | omega | (simp only [szA, szS, szD]; omega)⟩
            case measure => simp [intOf]; omega
        · have e2 : (y == 0) = false := beq_false_of_ne hy0e
          have e3 := decide_eq_false hy0e
          go_wp2_with (fail)
          obtain ⟨hi_c, HI_c⟩ : ∃ hi, ChanOwn w.heap.size hi w21 (.agg #[.int .i64 c.room, .slice ac1 c.items.length pc1, .slice ac2 c.senders.length pc2, .slice ac3 c.getters.length pc3, .bool c.closed]) c := ⟨_, Oc_21.out⟩
          have hN0 : w21.heap.size ≤ w21.heap.size := (by first | omega | (simp only [szA, szS, szD, World.heap_drewN] at * <;> omega))
          refine wp_region_L [⟨0, false, [], fun _ v _ => v = .agg #[.int .i64 c.room, .slice ac1 c.items.length pc1, .slice ac2 c.senders.length pc2, .slice ac3 c.getters.length pc3, .bool c.closed]⟩, ⟨1, false, [], fun _ v _ => v = .pointer (some ⟨b, 0, none⟩)⟩, ⟨2, false, [1], fun _ v _ => ∃ x : Int, v = .int .i64 x ∧ 0 ≤ x ∧ x < 6⟩, ⟨3, false, [], fun _ v _ => v = .pointer (some ⟨b, 0, none⟩)⟩, ⟨4, false, [], fun _ v w' => ∃ g, v = .slice (some ⟨g, 0, none⟩) 5 5 ∧ w.heap.size ≤ g ∧ w'.heap[g]? = some (.cells #[.int .i64 7, .int .i64 1, .int .i64 99, .int .i64 0, .int .i64 5] 3 (0, 0))⟩, ⟨5, false, [3, 4], fun _ v _ => ∃ x : Int, v = .int .i64 x ∧ 0 ≤ x ∧ x ≤ 99⟩, ⟨6, false, [0, 1, 2, 3, 4, 5], fun _ v w' => ∃ vr r uy sn ok, v = .tuple #[vr, uy, .bool sn, .bool ok] ∧ ChanOwn w.heap.size w'.heap.size w' vr r ∧ ChanFew 7 r⟩, ⟨7, false, [0, 1, 2, 3, 4, 5, 6], fun u v _ => v = u 6⟩, ⟨8, false, [0, 1, 2, 3, 4, 5, 6, 7], fun u v _ => v = tget (u 7) 0⟩, ⟨9, false, [0, 1, 2, 3, 4, 5, 6, 7], fun u v _ => v = tget (u 7) 1⟩, ⟨10, false, [0, 1, 2, 3, 4, 5, 6, 7], fun u v _ => v = tget (u 7) 2⟩, ⟨11, false, [0, 1, 2, 3, 4, 5, 6, 7], fun u v _ => v = tget (u 7) 3⟩, ⟨12, false, [], fun _ v w' => ∃ g, v = .pointer (some ⟨g, 0, none⟩) ∧ w21.heap.size ≤ g ∧ ∃ cs : Array Value, w'.heap[g]? = some (.cells cs 25 (0, 0)) ∧ cs.size = 5⟩, ⟨13, true, [12, 0, 1, 2, 3, 4, 5, 6, 7, 8], fun u _ w' => ∃ g cs, w21.heap.size ≤ g ∧ u 12 = .pointer (some ⟨g, 0, none⟩) ∧ u 8 = .agg cs ∧ w'.heap[g]? = some (.cells cs 25 (0, 0))⟩, ⟨14, false, [0, 1, 2, 3, 4, 5, 6, 7, 9], fun u v _ => v = u 9⟩, ⟨15, false, [0, 1, 2, 3, 4, 5, 6, 7, 10], fun u v _ => v = u 10⟩, ⟨16, false, [0, 1, 2, 3, 4, 5, 6, 7, 11], fun u v _ => v = u 11⟩] [(0, some 55), (1, some 56), (2, some 57), (3, some 58), (4, some 59), (5, some 60), (6, some 61), (7, some 54), (8, some 62), (9, some 63), (10, some 64), (11, some 65), (12, some 12), (13, none), (14, some 13), (15, some 14), (16, some 15)] (fun f w' => Dr w b (((N + 3 + 18 * (5 - k)) + 1) + (17 - f)) w' ∧ w21.heap.size ≤ w'.heap.size ∧ w'.heap[w2.heap.size]? = some (.cells #[.int .i64 c.room, .slice ac1 c.items.length pc1, .slice ac2 c.senders.length pc2, .slice ac3 c.getters.length pc3, .bool c.closed] 25 (0, 0)) ∧ w'.heap[w.heap.size]? = some (.cells #[.int .i64 0, .slice none 0 0, .slice none 0 0, .slice none 0 0, .bool false] 25 (0, 0)) ∧ ChanOwn w.heap.size hi_c w' (.agg #[.int .i64 c.room, .slice ac1 c.items.length pc1, .slice ac2 c.senders.length pc2, .slice ac3 c.getters.length pc3, .bool c.closed]) c) (fun x w1 w2 => if x = true then BoxW (w21.heap.size) 25 w1 w2 else w1.grownBy w2 (some b)) (by kernel_rfl) (by rfl) (by kernel_rfl) (by kernel_rfl) ⟨Dr.mono A21.out.drew (by omega), hN0, heap_drew Xc_21.out, heap_drew Xres_21.out, HI_c⟩ (GoalsL.cons ?_ (GoalsL.cons ?_ (GoalsL.cons ?_ (GoalsL.cons ?_ (GoalsL.cons ?_ (GoalsL.cons ?_ (GoalsL.cons ?_ (GoalsL.cons ?_ (GoalsL.cons ?_ (GoalsL.cons ?_ (GoalsL.cons ?_ (GoalsL.cons ?_ (GoalsL.cons ?_ (GoalsL.cons ?_ (GoalsL.cons ?_ (GoalsL.cons ?_ (GoalsL.cons ?_ (GoalsL.nil)))))))))))))))))) ?_
          · refine GoalL.mk (by rfl) (⟨fun _ _ _ _ _ h => h, fun _ _ _ _ _ _ h => h⟩) ?_
            intro f u w1 hf hC hD K hK
            replace hf : f < 17 := hf
            have hA := hC.1; have hN := hC.2.1; have hc := hC.2.2.1; have hres := hC.2.2.2.1; have oc := hC.2.2.2.2; clear hC
            clear hD
            simp only [putL, Act.put, List.setIfInBounds_toArray, List.set_cons_zero, List.set_cons_succ] at hK ⊢
            obtain ⟨cc_0, cc_1, cc_2, cc_3, cc_4, fc_0, fc_1, fc_2, fc_3, fc_4⟩ := box5 hc
            refine Closed.mk ?_
            go_simp
            exact hK.out _ _ ⟨hA.mono (by omega), hN, hc, hres, oc⟩ (World.grownBy.refl _ _) rfl
          · refine GoalL.mk (by rfl) (⟨fun _ _ _ _ _ h => h, fun _ _ _ _ _ _ h => h⟩) ?_
            intro f u w1 hf hC hD K hK
            replace hf : f < 17 := hf
            have hA := hC.1; have hN := hC.2.1; have hc := hC.2.2.1; have hres := hC.2.2.2.1; have oc := hC.2.2.2.2; clear hC
            clear hD
            simp only [putL, Act.put, List.setIfInBounds_toArray, List.set_cons_zero, List.set_cons_succ] at hK ⊢
            refine Closed.mk ?_
            go_simp
            exact hK.out _ _ ⟨hA.mono (by omega), hN, hc, hres, oc⟩ (World.grownBy.refl _ _) rfl
          · refine GoalL.mk (by rfl) (⟨fun _ _ _ _ _ h => h, fun _ _ _ _ _ _ h => h⟩) ?_
            intro f u w1 hf hC hD K hK
            replace hf : f < 17 := hf
            have hA := hC.1; have hN := hC.2.1; have hc := hC.2.2.1; have hres := hC.2.2.2.1; have oc := hC.2.2.2.2; clear hC
            have d1 := hD.1; clear hD
            have q1 : u 1 = .pointer (some ⟨b, 0, none⟩) := d1
            have e1 := q1; clear q1
            clear d1
            simp only [putL, Act.put, List.setIfInBounds_toArray, List.set_cons_zero, List.set_cons_succ, e1] at hK ⊢
            refine Closed.mk ?_
            go_simp
            refine (pickD b (((N + 3 + 18 * (5 - k)) + 1) + (17 - (f + 1))) 6 w _ hA (by omega) (by decide)).mono ?_
            rintro e w2 ⟨x, rfl, hx0, hx1, hd⟩
            exact hK.out _ _ ⟨(hA.then hd).mono (by omega), Nat.le_trans hN hd.size, (hd.at_ hc (by omega)), (hd.at_ hres (by omega)), (oc.past hd.g hlt)⟩ hd.g ⟨x, rfl, hx0, by omega⟩
          · refine GoalL.mk (by rfl) (⟨fun _ _ _ _ _ h => h, fun _ _ _ _ _ _ h => h⟩) ?_
            intro f u w1 hf hC hD K hK
            replace hf : f < 17 := hf
            have hA := hC.1; have hN := hC.2.1; have hc := hC.2.2.1; have hres := hC.2.2.2.1; have oc := hC.2.2.2.2; clear hC
            clear hD
            simp only [putL, Act.put, List.setIfInBounds_toArray, List.set_cons_zero, List.set_cons_succ] at hK ⊢
            refine Closed.mk ?_
            go_simp
            exact hK.out _ _ ⟨hA.mono (by omega), hN, hc, hres, oc⟩ (World.grownBy.refl _ _) rfl
          · refine GoalL.mk (by rfl) (⟨fun _ _ _ _ hR ⟨g, h1, h2, h3⟩ => ⟨g, h1, h2, grown_at hR h3 (by omega)⟩, fun _ _ _ _ _ hR ⟨g, h1, h2, h3⟩ => ⟨g, h1, h2, boxW_off h3 hR (by decide)⟩⟩) ?_
            intro f u w1 hf hC hD K hK
            replace hf : f < 17 := hf
            have hA := hC.1; have hN := hC.2.1; have hc := hC.2.2.1; have hres := hC.2.2.2.1; have oc := hC.2.2.2.2; clear hC
            clear hD
            simp only [putL, Act.put, List.setIfInBounds_toArray, List.set_cons_zero, List.set_cons_succ] at hK ⊢
            refine Closed.mk ?_
            go_simp
            exact hK.out _ _ ⟨(hA.alloc _).mono (by omega), Nat.le_trans hN (alloc_le _ _), (heap_up hc), (heap_up hres), (oc.alloc _)⟩ (World.grownBy_alloc _ _ _) ⟨_, rfl, by have := hA.size; omega, heap_at _ _⟩
          · refine GoalL.mk (by rfl) (⟨fun _ _ _ _ _ h => h, fun _ _ _ _ _ _ h => h⟩) ?_
            intro f u w1 hf hC hD K hK
            replace hf : f < 17 := hf
            have hA := hC.1; have hN := hC.2.1; have hc := hC.2.2.1; have hres := hC.2.2.2.1; have oc := hC.2.2.2.2; clear hC
            have d3 := hD.1; have d4 := hD.2.1; clear hD
            have q3 : u 3 = .pointer (some ⟨b, 0, none⟩) := d3
            have e3 := q3; clear q3
            clear d3
            have q4 : ∃ g, u 4 = .slice (some ⟨g, 0, none⟩) 5 5 ∧ w.heap.size ≤ g ∧ w1.heap[g]? = some (.cells #[.int .i64 7, .int .i64 1, .int .i64 99, .int .i64 0, .int .i64 5] 3 (0, 0)) := d4
            obtain ⟨g4, e4, q4a, q4b⟩ := q4
            clear d4
            simp only [putL, Act.put, List.setIfInBounds_toArray, List.set_cons_zero, List.set_cons_succ, e3, e4] at hK ⊢
            refine Closed.mk ?_
            go_simp
            refine (numD b (((N + 3 + 18 * (5 - k)) + 1) + (17 - (f + 1))) _ [7, 1, 99, 0, 5] w _ hA (by omega) (lit_at q4b rfl) (by decide) (by simp [Value.ownBlock]; omega)).mono ?_
            rintro e w2 ⟨x, rfl, hx, hd⟩
            have hxb : 0 ≤ x ∧ x ≤ 99 := by simp at hx; omega
            exact hK.out _ _ ⟨(hA.then hd).mono (by omega), Nat.le_trans hN hd.size, (hd.at_ hc (by omega)), (hd.at_ hres (by omega)), (oc.past hd.g hlt)⟩ hd.g ⟨x, rfl, hxb.1, hxb.2⟩
          · refine GoalL.mk (by rfl) (⟨fun _ _ _ _ hR ⟨vr, r, uy, sn, ok, h1, h2, h3⟩ => ⟨vr, r, uy, sn, ok, h1, (h2.past hR hlt).mono (Nat.le_refl _) hR.size, h3⟩, fun _ _ _ _ _ hR ⟨vr, r, uy, sn, ok, h1, h2, h3⟩ => ⟨vr, r, uy, sn, ok, h1, (h2.boxW hR (by decide)).mono (Nat.le_refl _) hR.size, h3⟩⟩) ?_
            intro f u w1 hf hC hD K hK
            replace hf : f < 17 := hf
            have hA := hC.1; have hN := hC.2.1; have hc := hC.2.2.1; have hres := hC.2.2.2.1; have oc := hC.2.2.2.2; clear hC
            have d0 := hD.1; have d1 := hD.2.1; have d2 := hD.2.2.1; have d3 := hD.2.2.2.1; have d4 := hD.2.2.2.2.1; have d5 := hD.2.2.2.2.2.1; clear hD
            have q0 : u 0 = .agg #[.int .i64 c.room, .slice ac1 c.items.length pc1, .slice ac2 c.senders.length pc2, .slice ac3 c.getters.length pc3, .bool c.closed] := d0
            have e0 := q0; clear q0
            clear d0
            have q1 : u 1 = .pointer (some ⟨b, 0, none⟩) := d1
            have e1 := q1; clear q1
            clear d1
            have q2 : ∃ x : Int, u 2 = .int .i64 x ∧ 0 ≤ x ∧ x < 6 := d2
            obtain ⟨x2, e2, q2a, q2b⟩ := q2
            clear d2
            have q3 : u 3 = .pointer (some ⟨b, 0, none⟩) := d3
            have e3 := q3; clear q3
            clear d3
            have q4 : ∃ g, u 4 = .slice (some ⟨g, 0, none⟩) 5 5 ∧ w.heap.size ≤ g ∧ w1.heap[g]? = some (.cells #[.int .i64 7, .int .i64 1, .int .i64 99, .int .i64 0, .int .i64 5] 3 (0, 0)) := d4
            obtain ⟨g4, e4, q4a, q4b⟩ := q4
            clear d4
            have q5 : ∃ x : Int, u 5 = .int .i64 x ∧ 0 ≤ x ∧ x ≤ 99 := d5
            obtain ⟨x5, e5, q5a, q5b⟩ := q5
            clear d5
            simp only [putL, Act.put, List.setIfInBounds_toArray, List.set_cons_zero, List.set_cons_succ, e0, e1, e2, e3, e4, e5] at hK ⊢
            obtain ⟨r, uy, sn, ok, hr⟩ : ∃ r uy sn ok, send c x2 x5 = (r, uy, sn, ok) := ⟨_, _, _, _, rfl⟩
            refine Closed.mk ?_
            go_simp
            refine (sSendChanO _ c x2 x5 r uy sn ok _ oc.row HN.out hr).mono ?_
            rintro e w2 ⟨vr, vu, rfl, ho, hu, hb⟩
            exact hK.out _ _ ⟨(hA.below hb).mono (by omega), Nat.le_trans hN hb.size, (below_at hb hc), (below_at hb hres), (oc.kept hb)⟩ (grown_of_below hb _) ⟨vr, r, vu, sn, ok, rfl, ho.mono hA.size (Nat.le_refl _), send_few hr⟩
          · refine GoalL.mk (by rfl) (⟨fun _ _ _ _ _ h => h, fun _ _ _ _ _ _ h => h⟩) ?_
            intro f u w1 hf hC hD K hK
            replace hf : f < 17 := hf
            have hA := hC.1; have hN := hC.2.1; have hc := hC.2.2.1; have hres := hC.2.2.2.1; have oc := hC.2.2.2.2; clear hC
            have d0 := hD.1; have d1 := hD.2.1; have d2 := hD.2.2.1; have d3 := hD.2.2.2.1; have d4 := hD.2.2.2.2.1; have d5 := hD.2.2.2.2.2.1; have d6 := hD.2.2.2.2.2.2.1; clear hD
            have q0 : u 0 = .agg #[.int .i64 c.room, .slice ac1 c.items.length pc1, .slice ac2 c.senders.length pc2, .slice ac3 c.getters.length pc3, .bool c.closed] := d0
            have e0 := q0; clear q0
            clear d0
            have q1 : u 1 = .pointer (some ⟨b, 0, none⟩) := d1
            have e1 := q1; clear q1
            clear d1
            have q2 : ∃ x : Int, u 2 = .int .i64 x ∧ 0 ≤ x ∧ x < 6 := d2
            obtain ⟨x2, e2, q2a, q2b⟩ := q2
            clear d2
            have q3 : u 3 = .pointer (some ⟨b, 0, none⟩) := d3
            have e3 := q3; clear q3
            clear d3
            have q4 : ∃ g, u 4 = .slice (some ⟨g, 0, none⟩) 5 5 ∧ w.heap.size ≤ g ∧ w1.heap[g]? = some (.cells #[.int .i64 7, .int .i64 1, .int .i64 99, .int .i64 0, .int .i64 5] 3 (0, 0)) := d4
            obtain ⟨g4, e4, q4a, q4b⟩ := q4
            clear d4
            have q5 : ∃ x : Int, u 5 = .int .i64 x ∧ 0 ≤ x ∧ x ≤ 99 := d5
            obtain ⟨x5, e5, q5a, q5b⟩ := q5
            clear d5
            have q6 : ∃ vr r uy sn ok, u 6 = .tuple #[vr, uy, .bool sn, .bool ok] ∧ ChanOwn w.heap.size w1.heap.size w1 vr r ∧ ChanFew 7 r := d6
            obtain ⟨vr6, r6, uy6, sn6, ok6, e6, q6a, q6b⟩ := q6
            have w6 := q6a; obtain ⟨aq6_1, pq6_1, aq6_2, pq6_2, aq6_3, pq6_3, rfl, hx6⟩ := q6a; clear hx6
            clear d6
            simp only [putL, Act.put, List.setIfInBounds_toArray, List.set_cons_zero, List.set_cons_succ, e0, e1, e2, e3, e4, e5, e6] at hK ⊢
            refine Closed.mk ?_
            go_simp
            exact hK.out _ _ ⟨hA.mono (by omega), hN, hc, hres, oc⟩ (World.grownBy.refl _ _) (by simp [mask, e6])
          · refine GoalL.mk (by rfl) (⟨fun _ _ _ _ _ h => h, fun _ _ _ _ _ _ h => h⟩) ?_
            intro f u w1 hf hC hD K hK
            replace hf : f < 17 := hf
            have hA := hC.1; have hN := hC.2.1; have hc := hC.2.2.1; have hres := hC.2.2.2.1; have oc := hC.2.2.2.2; clear hC
            have d0 := hD.1; have d1 := hD.2.1; have d2 := hD.2.2.1; have d3 := hD.2.2.2.1; have d4 := hD.2.2.2.2.1; have d5 := hD.2.2.2.2.2.1; have d6 := hD.2.2.2.2.2.2.1; have d7 := hD.2.2.2.2.2.2.2.1; clear hD
            have q0 : u 0 = .agg #[.int .i64 c.room, .slice ac1 c.items.length pc1, .slice ac2 c.senders.length pc2, .slice ac3 c.getters.length pc3, .bool c.closed] := d0
            have e0 := q0; clear q0
            clear d0
            have q1 : u 1 = .pointer (some ⟨b, 0, none⟩) := d1
            have e1 := q1; clear q1
            clear d1
            have q2 : ∃ x : Int, u 2 = .int .i64 x ∧ 0 ≤ x ∧ x < 6 := d2
            obtain ⟨x2, e2, q2a, q2b⟩ := q2
            clear d2
            have q3 : u 3 = .pointer (some ⟨b, 0, none⟩) := d3
            have e3 := q3; clear q3
            clear d3
            have q4 : ∃ g, u 4 = .slice (some ⟨g, 0, none⟩) 5 5 ∧ w.heap.size ≤ g ∧ w1.heap[g]? = some (.cells #[.int .i64 7, .int .i64 1, .int .i64 99, .int .i64 0, .int .i64 5] 3 (0, 0)) := d4
            obtain ⟨g4, e4, q4a, q4b⟩ := q4
            clear d4
            have q5 : ∃ x : Int, u 5 = .int .i64 x ∧ 0 ≤ x ∧ x ≤ 99 := d5
            obtain ⟨x5, e5, q5a, q5b⟩ := q5
            clear d5
            have q6 : ∃ vr r uy sn ok, u 6 = .tuple #[vr, uy, .bool sn, .bool ok] ∧ ChanOwn w.heap.size w1.heap.size w1 vr r ∧ ChanFew 7 r := d6
            obtain ⟨vr6, r6, uy6, sn6, ok6, e6, q6a, q6b⟩ := q6
            have w6 := q6a; obtain ⟨aq6_1, pq6_1, aq6_2, pq6_2, aq6_3, pq6_3, rfl, hx6⟩ := q6a; clear hx6
            clear d6
            have q7 : u 7 = u 6 := d7
            have e7 := q7; clear q7
            rw [e6] at e7
            clear d7
            simp only [putL, Act.put, List.setIfInBounds_toArray, List.set_cons_zero, List.set_cons_succ, e0, e1, e2, e3, e4, e5, e6, e7] at hK ⊢
            refine Closed.mk ?_
            go_simp
            exact hK.out _ _ ⟨hA.mono (by omega), hN, hc, hres, oc⟩ (World.grownBy.refl _ _) (by simp [mask, tget, e7])
          · refine GoalL.mk (by rfl) (⟨fun _ _ _ _ _ h => h, fun _ _ _ _ _ _ h => h⟩) ?_
            intro f u w1 hf hC hD K hK
            replace hf : f < 17 := hf
            have hA := hC.1; have hN := hC.2.1; have hc := hC.2.2.1; have hres := hC.2.2.2.1; have oc := hC.2.2.2.2; clear hC
            have d0 := hD.1; have d1 := hD.2.1; have d2 := hD.2.2.1; have d3 := hD.2.2.2.1; have d4 := hD.2.2.2.2.1; have d5 := hD.2.2.2.2.2.1; have d6 := hD.2.2.2.2.2.2.1; have d7 := hD.2.2.2.2.2.2.2.1; clear hD
            have q0 : u 0 = .agg #[.int .i64 c.room, .slice ac1 c.items.length pc1, .slice ac2 c.senders.length pc2, .slice ac3 c.getters.length pc3, .bool c.closed] := d0
            have e0 := q0; clear q0
            clear d0
            have q1 : u 1 = .pointer (some ⟨b, 0, none⟩) := d1
            have e1 := q1; clear q1
            clear d1
            have q2 : ∃ x : Int, u 2 = .int .i64 x ∧ 0 ≤ x ∧ x < 6 := d2
            obtain ⟨x2, e2, q2a, q2b⟩ := q2
            clear d2
            have q3 : u 3 = .pointer (some ⟨b, 0, none⟩) := d3
            have e3 := q3; clear q3
            clear d3
            have q4 : ∃ g, u 4 = .slice (some ⟨g, 0, none⟩) 5 5 ∧ w.heap.size ≤ g ∧ w1.heap[g]? = some (.cells #[.int .i64 7, .int .i64 1, .int .i64 99, .int .i64 0, .int .i64 5] 3 (0, 0)) := d4
            obtain ⟨g4, e4, q4a, q4b⟩ := q4
            clear d4
            have q5 : ∃ x : Int, u 5 = .int .i64 x ∧ 0 ≤ x ∧ x ≤ 99 := d5
            obtain ⟨x5, e5, q5a, q5b⟩ := q5
            clear d5
            have q6 : ∃ vr r uy sn ok, u 6 = .tuple #[vr, uy, .bool sn, .bool ok] ∧ ChanOwn w.heap.size w1.heap.size w1 vr r ∧ ChanFew 7 r := d6
            obtain ⟨vr6, r6, uy6, sn6, ok6, e6, q6a, q6b⟩ := q6
            have w6 := q6a; obtain ⟨aq6_1, pq6_1, aq6_2, pq6_2, aq6_3, pq6_3, rfl, hx6⟩ := q6a; clear hx6
            clear d6
            have q7 : u 7 = u 6 := d7
            have e7 := q7; clear q7
            rw [e6] at e7
            clear d7
            simp only [putL, Act.put, List.setIfInBounds_toArray, List.set_cons_zero, List.set_cons_succ, e0, e1, e2, e3, e4, e5, e6, e7] at hK ⊢
            refine Closed.mk ?_
            go_simp
            exact hK.out _ _ ⟨hA.mono (by omega), hN, hc, hres, oc⟩ (World.grownBy.refl _ _) (by simp [mask, tget, e7])
          · refine GoalL.mk (by rfl) (⟨fun _ _ _ _ _ h => h, fun _ _ _ _ _ _ h => h⟩) ?_
            intro f u w1 hf hC hD K hK
            replace hf : f < 17 := hf
            have hA := hC.1; have hN := hC.2.1; have hc := hC.2.2.1; have hres := hC.2.2.2.1; have oc := hC.2.2.2.2; clear hC
            have d0 := hD.1; have d1 := hD.2.1; have d2 := hD.2.2.1; have d3 := hD.2.2.2.1; have d4 := hD.2.2.2.2.1; have d5 := hD.2.2.2.2.2.1; have d6 := hD.2.2.2.2.2.2.1; have d7 := hD.2.2.2.2.2.2.2.1; clear hD
            have q0 : u 0 = .agg #[.int .i64 c.room, .slice ac1 c.items.length pc1, .slice ac2 c.senders.length pc2, .slice ac3 c.getters.length pc3, .bool c.closed] := d0
            have e0 := q0; clear q0
            clear d0
            have q1 : u 1 = .pointer (some ⟨b, 0, none⟩) := d1
            have e1 := q1; clear q1
            clear d1
            have q2 : ∃ x : Int, u 2 = .int .i64 x ∧ 0 ≤ x ∧ x < 6 := d2
            obtain ⟨x2, e2, q2a, q2b⟩ := q2
            clear d2
            have q3 : u 3 = .pointer (some ⟨b, 0, none⟩) := d3
            have e3 := q3; clear q3
            clear d3
            have q4 : ∃ g, u 4 = .slice (some ⟨g, 0, none⟩) 5 5 ∧ w.heap.size ≤ g ∧ w1.heap[g]? = some (.cells #[.int .i64 7, .int .i64 1, .int .i64 99, .int .i64 0, .int .i64 5] 3 (0, 0)) := d4
            obtain ⟨g4, e4, q4a, q4b⟩ := q4
            clear d4
            have q5 : ∃ x : Int, u 5 = .int .i64 x ∧ 0 ≤ x ∧ x ≤ 99 := d5
            obtain ⟨x5, e5, q5a, q5b⟩ := q5
            clear d5
            have q6 : ∃ vr r uy sn ok, u 6 = .tuple #[vr, uy, .bool sn, .bool ok] ∧ ChanOwn w.heap.size w1.heap.size w1 vr r ∧ ChanFew 7 r := d6
            obtain ⟨vr6, r6, uy6, sn6, ok6, e6, q6a, q6b⟩ := q6
            have w6 := q6a; obtain ⟨aq6_1, pq6_1, aq6_2, pq6_2, aq6_3, pq6_3, rfl, hx6⟩ := q6a; clear hx6
            clear d6
            have q7 : u 7 = u 6 := d7
            have e7 := q7; clear q7
            rw [e6] at e7
            clear d7
            simp only [putL, Act.put, List.setIfInBounds_toArray, List.set_cons_zero, List.set_cons_succ, e0, e1, e2, e3, e4, e5, e6, e7] at hK ⊢
            refine Closed.mk ?_
            go_simp
            exact hK.out _ _ ⟨hA.mono (by omega), hN, hc, hres, oc⟩ (World.grownBy.refl _ _) (by simp [mask, tget, e7])
          · refine GoalL.mk (by rfl) (⟨fun _ _ _ _ _ h => h, fun _ _ _ _ _ _ h => h⟩) ?_
            intro f u w1 hf hC hD K hK
            replace hf : f < 17 := hf
            have hA := hC.1; have hN := hC.2.1; have hc := hC.2.2.1; have hres := hC.2.2.2.1; have oc := hC.2.2.2.2; clear hC
            have d0 := hD.1; have d1 := hD.2.1; have d2 := hD.2.2.1; have d3 := hD.2.2.2.1; have d4 := hD.2.2.2.2.1; have d5 := hD.2.2.2.2.2.1; have d6 := hD.2.2.2.2.2.2.1; have d7 := hD.2.2.2.2.2.2.2.1; clear hD
            have q0 : u 0 = .agg #[.int .i64 c.room, .slice ac1 c.items.length pc1, .slice ac2 c.senders.length pc2, .slice ac3 c.getters.length pc3, .bool c.closed] := d0
            have e0 := q0; clear q0
            clear d0
            have q1 : u 1 = .pointer (some ⟨b, 0, none⟩) := d1
            have e1 := q1; clear q1
            clear d1
            have q2 : ∃ x : Int, u 2 = .int .i64 x ∧ 0 ≤ x ∧ x < 6 := d2
            obtain ⟨x2, e2, q2a, q2b⟩ := q2
            clear d2
            have q3 : u 3 = .pointer (some ⟨b, 0, none⟩) := d3
            have e3 := q3; clear q3
            clear d3
            have q4 : ∃ g, u 4 = .slice (some ⟨g, 0, none⟩) 5 5 ∧ w.heap.size ≤ g ∧ w1.heap[g]? = some (.cells #[.int .i64 7, .int .i64 1, .int .i64 99, .int .i64 0, .int .i64 5] 3 (0, 0)) := d4
            obtain ⟨g4, e4, q4a, q4b⟩ := q4
            clear d4
            have q5 : ∃ x : Int, u 5 = .int .i64 x ∧ 0 ≤ x ∧ x ≤ 99 := d5
            obtain ⟨x5, e5, q5a, q5b⟩ := q5
            clear d5
            have q6 : ∃ vr r uy sn ok, u 6 = .tuple #[vr, uy, .bool sn, .bool ok] ∧ ChanOwn w.heap.size w1.heap.size w1 vr r ∧ ChanFew 7 r := d6
            obtain ⟨vr6, r6, uy6, sn6, ok6, e6, q6a, q6b⟩ := q6
            have w6 := q6a; obtain ⟨aq6_1, pq6_1, aq6_2, pq6_2, aq6_3, pq6_3, rfl, hx6⟩ := q6a; clear hx6
            clear d6
            have q7 : u 7 = u 6 := d7
            have e7 := q7; clear q7
            rw [e6] at e7
            clear d7
            simp only [putL, Act.put, List.setIfInBounds_toArray, List.set_cons_zero, List.set_cons_succ, e0, e1, e2, e3, e4, e5, e6, e7] at hK ⊢
            refine Closed.mk ?_
            go_simp
            exact hK.out _ _ ⟨hA.mono (by omega), hN, hc, hres, oc⟩ (World.grownBy.refl _ _) (by simp [mask, tget, e7])
          · refine GoalL.mk (by rfl) (⟨fun _ _ _ _ hR ⟨g, h1, h2, cs, h3, h4⟩ => ⟨g, h1, h2, cs, grown_at hR h3 (by omega), h4⟩, fun _ _ _ _ _ hR ⟨g, h1, h2, cs, h3, h4⟩ => (boxW_shape h3 hR).elim fun cs' h => ⟨g, h1, h2, cs', h.1, by rw [h.2, h4]⟩⟩) ?_
            intro f u w1 hf hC hD K hK
            replace hf : f < 17 := hf
            have hA := hC.1; have hN := hC.2.1; have hc := hC.2.2.1; have hres := hC.2.2.2.1; have oc := hC.2.2.2.2; clear hC
            clear hD
            simp only [putL, Act.put, List.setIfInBounds_toArray, List.set_cons_zero, List.set_cons_succ] at hK ⊢
            refine Closed.mk ?_
            go_simp
            exact hK.out _ _ ⟨(hA.alloc _).mono (by omega), Nat.le_trans hN (alloc_le _ _), (heap_up hc), (heap_up hres), (oc.alloc _)⟩ (World.grownBy_alloc _ _ _) ⟨_, rfl, hN, _, heap_at _ _, rfl⟩
          · refine GoalL.mk (by rfl) (⟨fun u v w w' hR ⟨g, cs, h0, h1, h2, h3⟩ => ⟨g, cs, h0, h1, h2, grown_at hR h3 (by have := hlt; omega)⟩, fun h => by cases h⟩) ?_
            intro f u w1 hf hC hD K hK
            replace hf : f < 17 := hf
            have hA := hC.1; have hN := hC.2.1; have hc := hC.2.2.1; have hres := hC.2.2.2.1; have oc := hC.2.2.2.2; clear hC
            have d12 := hD.1; have d0 := hD.2.1; have d1 := hD.2.2.1; have d2 := hD.2.2.2.1; have d3 := hD.2.2.2.2.1; have d4 := hD.2.2.2.2.2.1; have d5 := hD.2.2.2.2.2.2.1; have d6 := hD.2.2.2.2.2.2.2.1; have d7 := hD.2.2.2.2.2.2.2.2.1; have d8 := hD.2.2.2.2.2.2.2.2.2.1; clear hD
            have q12 : ∃ g, u 12 = .pointer (some ⟨g, 0, none⟩) ∧ w21.heap.size ≤ g ∧ ∃ cs : Array Value, w1.heap[g]? = some (.cells cs 25 (0, 0)) ∧ cs.size = 5 := d12
            obtain ⟨g12, e12, q12a, cs12, q12b, q12c⟩ := q12
            clear d12
            have q0 : u 0 = .agg #[.int .i64 c.room, .slice ac1 c.items.length pc1, .slice ac2 c.senders.length pc2, .slice ac3 c.getters.length pc3, .bool c.closed] := d0
            have e0 := q0; clear q0
            clear d0
            have q1 : u 1 = .pointer (some ⟨b, 0, none⟩) := d1
            have e1 := q1; clear q1
            clear d1
            have q2 : ∃ x : Int, u 2 = .int .i64 x ∧ 0 ≤ x ∧ x < 6 := d2
            obtain ⟨x2, e2, q2a, q2b⟩ := q2
            clear d2
            have q3 : u 3 = .pointer (some ⟨b, 0, none⟩) := d3
            have e3 := q3; clear q3
            clear d3
            have q4 : ∃ g, u 4 = .slice (some ⟨g, 0, none⟩) 5 5 ∧ w.heap.size ≤ g ∧ w1.heap[g]? = some (.cells #[.int .i64 7, .int .i64 1, .int .i64 99, .int .i64 0, .int .i64 5] 3 (0, 0)) := d4
            obtain ⟨g4, e4, q4a, q4b⟩ := q4
            clear d4
            have q5 : ∃ x : Int, u 5 = .int .i64 x ∧ 0 ≤ x ∧ x ≤ 99 := d5
            obtain ⟨x5, e5, q5a, q5b⟩ := q5
            clear d5
            have q6 : ∃ vr r uy sn ok, u 6 = .tuple #[vr, uy, .bool sn, .bool ok] ∧ ChanOwn w.heap.size w1.heap.size w1 vr r ∧ ChanFew 7 r := d6
            obtain ⟨vr6, r6, uy6, sn6, ok6, e6, q6a, q6b⟩ := q6
            have w6 := q6a; obtain ⟨aq6_1, pq6_1, aq6_2, pq6_2, aq6_3, pq6_3, rfl, hx6⟩ := q6a; clear hx6
            clear d6
            have q7 : u 7 = u 6 := d7
            have e7 := q7; clear q7
            rw [e6] at e7
            clear d7
            have q8 : u 8 = tget (u 7) 0 := d8
            have e8 := q8; clear q8
            rw [e7] at e8
            simp only [tget] at e8
            replace e8 : u 8 = (.agg #[.int .i64 r6.room, .slice aq6_1 r6.items.length pq6_1, .slice aq6_2 r6.senders.length pq6_2, .slice aq6_3 r6.getters.length pq6_3, .bool r6.closed]) := e8
            clear d8
            simp only [putL, Act.put, List.setIfInBounds_toArray, List.set_cons_zero, List.set_cons_succ, e12, e0, e1, e2, e3, e4, e5, e6, e7, e8] at hK ⊢
            obtain ⟨z0, z1, z2, z3, z4, rfl⟩ := cells5 q12c
            obtain ⟨c9_0, c9_1, c9_2, c9_3, c9_4, f9_0, f9_1, f9_2, f9_3, f9_4⟩ := box5 q12b
            refine Closed.mk ?_
            go_simp
            exact hK.out undef _ ⟨(((((hA.set (a := ⟨g12, 0, none⟩) (show w.heap.size ≤ g12 by omega) (.int .i64 r6.room)).set (a := ⟨g12, 1, none⟩) (show w.heap.size ≤ g12 by omega) (.slice aq6_1 r6.items.length pq6_1)).set (a := ⟨g12, 2, none⟩) (show w.heap.size ≤ g12 by omega) (.slice aq6_2 r6.senders.length pq6_2)).set (a := ⟨g12, 3, none⟩) (show w.heap.size ≤ g12 by omega) (.slice aq6_3 r6.getters.length pq6_3)).set (a := ⟨g12, 4, none⟩) (show w.heap.size ≤ g12 by omega) (.bool r6.closed)).mono (by omega), (by simp only [szS]; exact hN), (set_off (a := ⟨g12, 4, none⟩) (set_off (a := ⟨g12, 3, none⟩) (set_off (a := ⟨g12, 2, none⟩) (set_off (a := ⟨g12, 1, none⟩) (set_off (a := ⟨g12, 0, none⟩) hc (show g12 ≠ _ by omega) (.int .i64 r6.room)) (show g12 ≠ _ by omega) (.slice aq6_1 r6.items.length pq6_1)) (show g12 ≠ _ by omega) (.slice aq6_2 r6.senders.length pq6_2)) (show g12 ≠ _ by omega) (.slice aq6_3 r6.getters.length pq6_3)) (show g12 ≠ _ by omega) (.bool r6.closed)), (set_off (a := ⟨g12, 4, none⟩) (set_off (a := ⟨g12, 3, none⟩) (set_off (a := ⟨g12, 2, none⟩) (set_off (a := ⟨g12, 1, none⟩) (set_off (a := ⟨g12, 0, none⟩) hres (show g12 ≠ _ by omega) (.int .i64 r6.room)) (show g12 ≠ _ by omega) (.slice aq6_1 r6.items.length pq6_1)) (show g12 ≠ _ by omega) (.slice aq6_2 r6.senders.length pq6_2)) (show g12 ≠ _ by omega) (.slice aq6_3 r6.getters.length pq6_3)) (show g12 ≠ _ by omega) (.bool r6.closed)), (((((oc.setB g12 0 q12b (by decide) (.int .i64 r6.room)).setB g12 1 (set_at (a := ⟨g12, 0, none⟩) q12b rfl rfl (.int .i64 r6.room)) (by decide) (.slice aq6_1 r6.items.length pq6_1)).setB g12 2 (set_at (a := ⟨g12, 1, none⟩) (set_at (a := ⟨g12, 0, none⟩) q12b rfl rfl (.int .i64 r6.room)) rfl rfl (.slice aq6_1 r6.items.length pq6_1)) (by decide) (.slice aq6_2 r6.senders.length pq6_2)).setB g12 3 (set_at (a := ⟨g12, 2, none⟩) (set_at (a := ⟨g12, 1, none⟩) (set_at (a := ⟨g12, 0, none⟩) q12b rfl rfl (.int .i64 r6.room)) rfl rfl (.slice aq6_1 r6.items.length pq6_1)) rfl rfl (.slice aq6_2 r6.senders.length pq6_2)) (by decide) (.slice aq6_3 r6.getters.length pq6_3)).setB g12 4 (set_at (a := ⟨g12, 3, none⟩) (set_at (a := ⟨g12, 2, none⟩) (set_at (a := ⟨g12, 1, none⟩) (set_at (a := ⟨g12, 0, none⟩) q12b rfl rfl (.int .i64 r6.room)) rfl rfl (.slice aq6_1 r6.items.length pq6_1)) rfl rfl (.slice aq6_2 r6.senders.length pq6_2)) rfl rfl (.slice aq6_3 r6.getters.length pq6_3)) (by decide) (.bool r6.closed))⟩ ⟨g12, _, _, q12a, q12b, (set_at (a := ⟨g12, 4, none⟩) (set_at (a := ⟨g12, 3, none⟩) (set_at (a := ⟨g12, 2, none⟩) (set_at (a := ⟨g12, 1, none⟩) (set_at (a := ⟨g12, 0, none⟩) q12b rfl rfl (.int .i64 r6.room)) rfl rfl (.slice aq6_1 r6.items.length pq6_1)) rfl rfl (.slice aq6_2 r6.senders.length pq6_2)) rfl rfl (.slice aq6_3 r6.getters.length pq6_3)) rfl rfl (.bool r6.closed)), rfl, (grown_set (a := ⟨g12, 4, none⟩) (grown_set (a := ⟨g12, 3, none⟩) (grown_set (a := ⟨g12, 2, none⟩) (grown_set (a := ⟨g12, 1, none⟩) (grown_set (a := ⟨g12, 0, none⟩) (World.grownBy.refl _ _) rfl (.int .i64 r6.room)) rfl (.slice aq6_1 r6.items.length pq6_1)) rfl (.slice aq6_2 r6.senders.length pq6_2)) rfl (.slice aq6_3 r6.getters.length pq6_3)) rfl (.bool r6.closed))⟩ ⟨g12, _, q12a, (by simp [mask, e12]), (by first | (simp [mask, e8]; done) | (simp [mask, e8]; rfl)), (set_at (a := ⟨g12, 4, none⟩) (set_at (a := ⟨g12, 3, none⟩) (set_at (a := ⟨g12, 2, none⟩) (set_at (a := ⟨g12, 1, none⟩) (set_at (a := ⟨g12, 0, none⟩) q12b rfl rfl (.int .i64 r6.room)) rfl rfl (.slice aq6_1 r6.items.length pq6_1)) rfl rfl (.slice aq6_2 r6.senders.length pq6_2)) rfl rfl (.slice aq6_3 r6.getters.length pq6_3)) rfl rfl (.bool r6.closed))⟩
          · refine GoalL.mk (by rfl) (⟨fun _ _ _ _ _ h => h, fun _ _ _ _ _ _ h => h⟩) ?_
            intro f u w1 hf hC hD K hK
            replace hf : f < 17 := hf
            have hA := hC.1; have hN := hC.2.1; have hc := hC.2.2.1; have hres := hC.2.2.2.1; have oc := hC.2.2.2.2; clear hC
            have d0 := hD.1; have d1 := hD.2.1; have d2 := hD.2.2.1; have d3 := hD.2.2.2.1; have d4 := hD.2.2.2.2.1; have d5 := hD.2.2.2.2.2.1; have d6 := hD.2.2.2.2.2.2.1; have d7 := hD.2.2.2.2.2.2.2.1; have d9 := hD.2.2.2.2.2.2.2.2.1; clear hD
            have q0 : u 0 = .agg #[.int .i64 c.room, .slice ac1 c.items.length pc1, .slice ac2 c.senders.length pc2, .slice ac3 c.getters.length pc3, .bool c.closed] := d0
            have e0 := q0; clear q0
            clear d0
            have q1 : u 1 = .pointer (some ⟨b, 0, none⟩) := d1
            have e1 := q1; clear q1
            clear d1
            have q2 : ∃ x : Int, u 2 = .int .i64 x ∧ 0 ≤ x ∧ x < 6 := d2
            obtain ⟨x2, e2, q2a, q2b⟩ := q2
            clear d2
            have q3 : u 3 = .pointer (some ⟨b, 0, none⟩) := d3
            have e3 := q3; clear q3
            clear d3
            have q4 : ∃ g, u 4 = .slice (some ⟨g, 0, none⟩) 5 5 ∧ w.heap.size ≤ g ∧ w1.heap[g]? = some (.cells #[.int .i64 7, .int .i64 1, .int .i64 99, .int .i64 0, .int .i64 5] 3 (0, 0)) := d4
            obtain ⟨g4, e4, q4a, q4b⟩ := q4
            clear d4
            have q5 : ∃ x : Int, u 5 = .int .i64 x ∧ 0 ≤ x ∧ x ≤ 99 := d5
            obtain ⟨x5, e5, q5a, q5b⟩ := q5
            clear d5
            have q6 : ∃ vr r uy sn ok, u 6 = .tuple #[vr, uy, .bool sn, .bool ok] ∧ ChanOwn w.heap.size w1.heap.size w1 vr r ∧ ChanFew 7 r := d6
            obtain ⟨vr6, r6, uy6, sn6, ok6, e6, q6a, q6b⟩ := q6
            have w6 := q6a; obtain ⟨aq6_1, pq6_1, aq6_2, pq6_2, aq6_3, pq6_3, rfl, hx6⟩ := q6a; clear hx6
            clear d6
            have q7 : u 7 = u 6 := d7
            have e7 := q7; clear q7
            rw [e6] at e7
            clear d7
            have q9 : u 9 = tget (u 7) 1 := d9
            have e9 := q9; clear q9
            rw [e7] at e9
            simp only [tget] at e9
            replace e9 : u 9 = uy6 := e9
            clear d9
            simp only [putL, Act.put, List.setIfInBounds_toArray, List.set_cons_zero, List.set_cons_succ, e0, e1, e2, e3, e4, e5, e6, e7, e9] at hK ⊢
            refine Closed.mk ?_
            go_simp
            exact hK.out _ _ ⟨hA.mono (by omega), hN, hc, hres, oc⟩ (World.grownBy.refl _ _) (by simp [mask, e9])
          · refine GoalL.mk (by rfl) (⟨fun _ _ _ _ _ h => h, fun _ _ _ _ _ _ h => h⟩) ?_
            intro f u w1 hf hC hD K hK
            replace hf : f < 17 := hf
            have hA := hC.1; have hN := hC.2.1; have hc := hC.2.2.1; have hres := hC.2.2.2.1; have oc := hC.2.2.2.2; clear hC
            have d0 := hD.1; have d1 := hD.2.1; have d2 := hD.2.2.1; have d3 := hD.2.2.2.1; have d4 := hD.2.2.2.2.1; have d5 := hD.2.2.2.2.2.1; have d6 := hD.2.2.2.2.2.2.1; have d7 := hD.2.2.2.2.2.2.2.1; have d10 := hD.2.2.2.2.2.2.2.2.1; clear hD
            have q0 : u 0 = .agg #[.int .i64 c.room, .slice ac1 c.items.length pc1, .slice ac2 c.senders.length pc2, .slice ac3 c.getters.length pc3, .bool c.closed] := d0
            have e0 := q0; clear q0
            clear d0
            have q1 : u 1 = .pointer (some ⟨b, 0, none⟩) := d1
            have e1 := q1; clear q1
            clear d1
            have q2 : ∃ x : Int, u 2 = .int .i64 x ∧ 0 ≤ x ∧ x < 6 := d2
            obtain ⟨x2, e2, q2a, q2b⟩ := q2
            clear d2
            have q3 : u 3 = .pointer (some ⟨b, 0, none⟩) := d3
            have e3 := q3; clear q3
            clear d3
            have q4 : ∃ g, u 4 = .slice (some ⟨g, 0, none⟩) 5 5 ∧ w.heap.size ≤ g ∧ w1.heap[g]? = some (.cells #[.int .i64 7, .int .i64 1, .int .i64 99, .int .i64 0, .int .i64 5] 3 (0, 0)) := d4
            obtain ⟨g4, e4, q4a, q4b⟩ := q4
            clear d4
            have q5 : ∃ x : Int, u 5 = .int .i64 x ∧ 0 ≤ x ∧ x ≤ 99 := d5
            obtain ⟨x5, e5, q5a, q5b⟩ := q5
            clear d5
            have q6 : ∃ vr r uy sn ok, u 6 = .tuple #[vr, uy, .bool sn, .bool ok] ∧ ChanOwn w.heap.size w1.heap.size w1 vr r ∧ ChanFew 7 r := d6
            obtain ⟨vr6, r6, uy6, sn6, ok6, e6, q6a, q6b⟩ := q6
            have w6 := q6a; obtain ⟨aq6_1, pq6_1, aq6_2, pq6_2, aq6_3, pq6_3, rfl, hx6⟩ := q6a; clear hx6
            clear d6
            have q7 : u 7 = u 6 := d7
            have e7 := q7; clear q7
            rw [e6] at e7
            clear d7
            have q10 : u 10 = tget (u 7) 2 := d10
            have e10 := q10; clear q10
            rw [e7] at e10
            simp only [tget] at e10
            replace e10 : u 10 = .bool sn6 := e10
            clear d10
            simp only [putL, Act.put, List.setIfInBounds_toArray, List.set_cons_zero, List.set_cons_succ, e0, e1, e2, e3, e4, e5, e6, e7, e10] at hK ⊢
            refine Closed.mk ?_
            go_simp
            exact hK.out _ _ ⟨hA.mono (by omega), hN, hc, hres, oc⟩ (World.grownBy.refl _ _) (by simp [mask, e10])
          · refine GoalL.mk (by rfl) (⟨fun _ _ _ _ _ h => h, fun _ _ _ _ _ _ h => h⟩) ?_
            intro f u w1 hf hC hD K hK
            replace hf : f < 17 := hf
            have hA := hC.1; have hN := hC.2.1; have hc := hC.2.2.1; have hres := hC.2.2.2.1; have oc := hC.2.2.2.2; clear hC
            have d0 := hD.1; have d1 := hD.2.1; have d2 := hD.2.2.1; have d3 := hD.2.2.2.1; have d4 := hD.2.2.2.2.1; have d5 := hD.2.2.2.2.2.1; have d6 := hD.2.2.2.2.2.2.1; have d7 := hD.2.2.2.2.2.2.2.1; have d11 := hD.2.2.2.2.2.2.2.2.1; clear hD
            have q0 : u 0 = .agg #[.int .i64 c.room, .slice ac1 c.items.length pc1, .slice ac2 c.senders.length pc2, .slice ac3 c.getters.length pc3, .bool c.closed] := d0
            have e0 := q0; clear q0
            clear d0
            have q1 : u 1 = .pointer (some ⟨b, 0, none⟩) := d1
            have e1 := q1; clear q1
            clear d1
            have q2 : ∃ x : Int, u 2 = .int .i64 x ∧ 0 ≤ x ∧ x < 6 := d2
            obtain ⟨x2, e2, q2a, q2b⟩ := q2
            clear d2
            have q3 : u 3 = .pointer (some ⟨b, 0, none⟩) := d3
            have e3 := q3; clear q3
            clear d3
            have q4 : ∃ g, u 4 = .slice (some ⟨g, 0, none⟩) 5 5 ∧ w.heap.size ≤ g ∧ w1.heap[g]? = some (.cells #[.int .i64 7, .int .i64 1, .int .i64 99, .int .i64 0, .int .i64 5] 3 (0, 0)) := d4
            obtain ⟨g4, e4, q4a, q4b⟩ := q4
            clear d4
            have q5 : ∃ x : Int, u 5 = .int .i64 x ∧ 0 ≤ x ∧ x ≤ 99 := d5
            obtain ⟨x5, e5, q5a, q5b⟩ := q5
            clear d5
            have q6 : ∃ vr r uy sn ok, u 6 = .tuple #[vr, uy, .bool sn, .bool ok] ∧ ChanOwn w.heap.size w1.heap.size w1 vr r ∧ ChanFew 7 r := d6
            obtain ⟨vr6, r6, uy6, sn6, ok6, e6, q6a, q6b⟩ := q6
            have w6 := q6a; obtain ⟨aq6_1, pq6_1, aq6_2, pq6_2, aq6_3, pq6_3, rfl, hx6⟩ := q6a; clear hx6
            clear d6
            have q7 : u 7 = u 6 := d7
            have e7 := q7; clear q7
            rw [e6] at e7
            clear d7
            have q11 : u 11 = tget (u 7) 3 := d11
            have e11 := q11; clear q11
            rw [e7] at e11
            simp only [tget] at e11
            replace e11 : u 11 = .bool ok6 := e11
            clear d11
            simp only [putL, Act.put, List.setIfInBounds_toArray, List.set_cons_zero, List.set_cons_succ, e0, e1, e2, e3, e4, e5, e6, e7, e11] at hK ⊢
            refine Closed.mk ?_
            go_simp
            exact hK.out _ _ ⟨hA.mono (by omega), hN, hc, hres, oc⟩ (World.grownBy.refl _ _) (by simp [mask, e11])
          intro u w22 hC hD
          have hA := hC.1; have hN := hC.2.1; have hc := hC.2.2.1; have hres := hC.2.2.2.1; have oc := hC.2.2.2.2; clear hC
          have d0 := hD.1; have d1 := hD.2.1; have d2 := hD.2.2.1; have d3 := hD.2.2.2.1; have d4 := hD.2.2.2.2.1; have d5 := hD.2.2.2.2.2.1; have d6 := hD.2.2.2.2.2.2.1; have d7 := hD.2.2.2.2.2.2.2.1; have d8 := hD.2.2.2.2.2.2.2.2.1; have d9 := hD.2.2.2.2.2.2.2.2.2.1; have d10 := hD.2.2.2.2.2.2.2.2.2.2.1; have d11 := hD.2.2.2.2.2.2.2.2.2.2.2.1; have d12 := hD.2.2.2.2.2.2.2.2.2.2.2.2.1; have d13 := hD.2.2.2.2.2.2.2.2.2.2.2.2.2.1; have d14 := hD.2.2.2.2.2.2.2.2.2.2.2.2.2.2.1; have d15 := hD.2.2.2.2.2.2.2.2.2.2.2.2.2.2.2.1; have d16 := hD.2.2.2.2.2.2.2.2.2.2.2.2.2.2.2.2.1; clear hD
          have q0 : u 0 = .agg #[.int .i64 c.room, .slice ac1 c.items.length pc1, .slice ac2 c.senders.length pc2, .slice ac3 c.getters.length pc3, .bool c.closed] := d0
          have e0 := q0; clear q0
          clear d0
          have q1 : u 1 = .pointer (some ⟨b, 0, none⟩) := d1
          have e1 := q1; clear q1
          clear d1
          have q2 : ∃ x : Int, u 2 = .int .i64 x ∧ 0 ≤ x ∧ x < 6 := d2
          obtain ⟨x2, e2, q2a, q2b⟩ := q2
          clear d2
          have q3 : u 3 = .pointer (some ⟨b, 0, none⟩) := d3
          have e3 := q3; clear q3
          clear d3
          have q4 : ∃ g, u 4 = .slice (some ⟨g, 0, none⟩) 5 5 ∧ w.heap.size ≤ g ∧ w22.heap[g]? = some (.cells #[.int .i64 7, .int .i64 1, .int .i64 99, .int .i64 0, .int .i64 5] 3 (0, 0)) := d4
          obtain ⟨g4, e4, q4a, q4b⟩ := q4
          clear d4
          have q5 : ∃ x : Int, u 5 = .int .i64 x ∧ 0 ≤ x ∧ x ≤ 99 := d5
          obtain ⟨x5, e5, q5a, q5b⟩ := q5
          clear d5
          have q6 : ∃ vr r uy sn ok, u 6 = .tuple #[vr, uy, .bool sn, .bool ok] ∧ ChanOwn w.heap.size w22.heap.size w22 vr r ∧ ChanFew 7 r := d6
          obtain ⟨vr6, r6, uy6, sn6, ok6, e6, q6a, q6b⟩ := q6
          have w6 := q6a; obtain ⟨aq6_1, pq6_1, aq6_2, pq6_2, aq6_3, pq6_3, rfl, hx6⟩ := q6a; clear hx6
          clear d6
          have q7 : u 7 = u 6 := d7
          have e7 := q7; clear q7
          rw [e6] at e7
          clear d7
          have q8 : u 8 = tget (u 7) 0 := d8
          have e8 := q8; clear q8
          rw [e7] at e8
          simp only [tget] at e8
          replace e8 : u 8 = (.agg #[.int .i64 r6.room, .slice aq6_1 r6.items.length pq6_1, .slice aq6_2 r6.senders.length pq6_2, .slice aq6_3 r6.getters.length pq6_3, .bool r6.closed]) := e8
          clear d8
          have q9 : u 9 = tget (u 7) 1 := d9
          have e9 := q9; clear q9
          rw [e7] at e9
          simp only [tget] at e9
          replace e9 : u 9 = uy6 := e9
          clear d9
          have q10 : u 10 = tget (u 7) 2 := d10
          have e10 := q10; clear q10
          rw [e7] at e10
          simp only [tget] at e10
          replace e10 : u 10 = .bool sn6 := e10
          clear d10
          have q11 : u 11 = tget (u 7) 3 := d11
          have e11 := q11; clear q11
          rw [e7] at e11
          simp only [tget] at e11
          replace e11 : u 11 = .bool ok6 := e11
          clear d11
          have q12 : ∃ g, u 12 = .pointer (some ⟨g, 0, none⟩) ∧ w21.heap.size ≤ g ∧ ∃ cs : Array Value, w22.heap[g]? = some (.cells cs 25 (0, 0)) ∧ cs.size = 5 := d12
          obtain ⟨g12, e12, q12a, cs12, q12b, q12c⟩ := q12
          clear d12
          have q13 : ∃ g cs, w21.heap.size ≤ g ∧ u 12 = .pointer (some ⟨g, 0, none⟩) ∧ u 8 = .agg cs ∧ w22.heap[g]? = some (.cells cs 25 (0, 0)) := d13
          clear d13
          have q14 : u 14 = u 9 := d14
          have e14 := q14; clear q14
          rw [e9] at e14
          clear d14
          have q15 : u 15 = u 10 := d15
          have e15 := q15; clear q15
          rw [e10] at e15
          clear d15
          have q16 : u 16 = u 11 := d16
          have e16 := q16; clear q16
          rw [e11] at e16
          clear d16
          replace hA : Dr w b (((N + 3 + 18 * (5 - k)) + 1) + (17 - (17 - 17))) w22 := hA
          have A22 : Hid (Dr w b ((N + 3 + 18 * (5 - k)) + 18) w22) := hA.mono (by omega)
          have N22 := hN; have S22 := hA.size
          have Xc_22 := Lib.hid hc; clear hc
          have Xres_22 := Lib.hid hres; clear hres
          have Oc_22 := Lib.hid oc; clear oc
          obtain ⟨gg, cc, hg0, hg1, hg2, hg3⟩ := q13
          clear hg0; have hg4 := same_tuple e12 hg1; have hg5 := same_agg e8 hg2
          rw [hg4, hg5] at hg3
          clear hg1 hg2 hg4 hg5
          have Xnew_22 := Lib.hid hg3; clear hg3 q12b q12c
          have Oq6__22 := Lib.hid w6; clear w6
          have HV6 := Lib.hid q6b; clear q6b
          obtain ⟨cc22_0, cc22_1, cc22_2, cc22_3, cc22_4, fc22_0, fc22_1, fc22_2, fc22_3, fc22_4⟩ := box5 Xc_22.out; have lc22 := heap_lt Xc_22.out
          obtain ⟨cres22_0, cres22_1, cres22_2, cres22_3, cres22_4, fres22_0, fres22_1, fres22_2, fres22_3, fres22_4⟩ := box5 Xres_22.out; have lres22 := heap_lt Xres_22.out
          obtain ⟨cnew22_0, cnew22_1, cnew22_2, cnew22_3, cnew22_4, fnew22_0, fnew22_1, fnew22_2, fnew22_3, fnew22_4⟩ := box5 Xnew_22.out; have lnew22 := heap_lt Xnew_22.out
          clear hA hN
          simp only [putL, Act.put, List.setIfInBounds_toArray, List.set_cons_zero, List.set_cons_succ, e0, e1, e2, e3, e4, e5, e6, e7, e8, e9, e10, e11, e12, e14, e15, e16]
          refine Closed.mk ?_
          refine wpAnyH_done (by kernel_rfl) ?_ _
          cases ok6
          · go_wp2
            go_roundw
            case rel => exact ⟨k - 1, c, _, _, _, _, _, _, by omega, by go_num, Xc_22.out, Xres_22.out, Oc_22.out.tight, VC.out, A22.out.mono (by omega), by first | omega | (simp only [szA, szS, szD]; omega)⟩
            case measure => simp [intOf]; omega
          · go_wp2
            go_roundw
            case rel => exact ⟨k - 1, r6, _, _, _, _, _, _, by omega, by go_num, (set_at (a := ⟨w2.heap.size, 4, none⟩) (set_at (a := ⟨w2.heap.size, 3, none⟩) (set_at (a := ⟨w2.heap.size, 2, none⟩) (set_at (a := ⟨w2.heap.size, 1, none⟩) (set_at (a := ⟨w2.heap.size, 0, none⟩) Xc_22.out rfl rfl (.int .i64 r6.room)) rfl rfl (.slice aq6_1 r6.items.length pq6_1)) rfl rfl (.slice aq6_2 r6.senders.length pq6_2)) rfl rfl (.slice aq6_3 r6.getters.length pq6_3)) rfl rfl (.bool r6.closed)), (set_off (a := ⟨w2.heap.size, 4, none⟩) (set_off (a := ⟨w2.heap.size, 3, none⟩) (set_off (a := ⟨w2.heap.size, 2, none⟩) (set_off (a := ⟨w2.heap.size, 1, none⟩) (set_off (a := ⟨w2.heap.size, 0, none⟩) Xres_22.out (by first | omega | (simp only [szA, szS, szD, World.heap_drewN] at * <;> omega)) (.int .i64 r6.room)) (by first | omega | (simp only [szA, szS, szD, World.heap_drewN] at * <;> omega)) (.slice aq6_1 r6.items.length pq6_1)) (by first | omega | (simp only [szA, szS, szD, World.heap_drewN] at * <;> omega)) (.slice aq6_2 r6.senders.length pq6_2)) (by first | omega | (simp only [szA, szS, szD, World.heap_drewN] at * <;> omega)) (.slice aq6_3 r6.getters.length pq6_3)) (by first | omega | (simp only [szA, szS, szD, World.heap_drewN] at * <;> omega)) (.bool r6.closed)), (((((Oq6__22.out.setB (w2.heap.size) 0 Xc_22.out (by decide) (.int .i64 r6.room)).setB (w2.heap.size) 1 (set_at (a := ⟨w2.heap.size, 0, none⟩) Xc_22.out rfl rfl (.int .i64 r6.room)) (by decide) (.slice aq6_1 r6.items.length pq6_1)).setB (w2.heap.size) 2 (set_at (a := ⟨w2.heap.size, 1, none⟩) (set_at (a := ⟨w2.heap.size, 0, none⟩) Xc_22.out rfl rfl (.int .i64 r6.room)) rfl rfl (.slice aq6_1 r6.items.length pq6_1)) (by decide) (.slice aq6_2 r6.senders.length pq6_2)).setB (w2.heap.size) 3 (set_at (a := ⟨w2.heap.size, 2, none⟩) (set_at (a := ⟨w2.heap.size, 1, none⟩) (set_at (a := ⟨w2.heap.size, 0, none⟩) Xc_22.out rfl rfl (.int .i64 r6.room)) rfl rfl (.slice aq6_1 r6.items.length pq6_1)) rfl rfl (.slice aq6_2 r6.senders.length pq6_2)) (by decide) (.slice aq6_3 r6.getters.length pq6_3)).setB (w2.heap.size) 4 (set_at (a := ⟨w2.heap.size, 3, none⟩) (set_at (a := ⟨w2.heap.size, 2, none⟩) (set_at (a := ⟨w2.heap.size, 1, none⟩) (set_at (a := ⟨w2.heap.size, 0, none⟩) Xc_22.out rfl rfl (.int .i64 r6.room)) rfl rfl (.slice aq6_1 r6.items.length pq6_1)) rfl rfl (.slice aq6_2 r6.senders.length pq6_2)) rfl rfl (.slice aq6_3 r6.getters.length pq6_3)) (by decide) (.bool r6.closed)).tight, HV6.out, (((((A22.out.set (a := ⟨w2.heap.size, 0, none⟩) (by first | omega | (simp only [szA, szS, szD, World.heap_drewN] at * <;> omega)) (.int .i64 r6.room)).set (a := ⟨w2.heap.size, 1, none⟩) (by first | omega | (simp only [szA, szS, szD, World.heap_drewN] at * <;> omega)) (.slice aq6_1 r6.items.length pq6_1)).set (a := ⟨w2.heap.size, 2, none⟩) (by first | omega | (simp only [szA, szS, szD, World.heap_drewN] at * <;> omega)) (.slice aq6_2 r6.senders.length pq6_2)).set (a := ⟨w2.heap.size, 3, none⟩) (by first | omega | (simp only [szA, szS, szD, World.heap_drewN] at * <;> omega)) (.slice aq6_3 r6.getters.length pq6_3)).set (a := ⟨w2.heap.size, 4, none⟩) (by first | omega | (simp only [szA, szS, szD, World.heap_drewN] at * <;> omega)) (.bool r6.closed)).mono (by omega), by first | omega | (simp only [szA, szS, szD]; omega)⟩
            case measure => simp [intOf]; omega
      · go_wp2_with (fail)
        obtain ⟨hi_c, HI_c⟩ : ∃ hi, ChanOwn w.heap.size hi w20 (.agg #[.int .i64 c.room, .slice ac1 c.items.length pc1, .slice ac2 c.senders.length pc2, .slice ac3 c.getters.length pc3, .bool c.closed]) c := ⟨_, Oc_20.out⟩
        have hN0 : w20.heap.size ≤ w20.heap.size := (by first | omega | (simp only [szA, szS, szD, World.heap_drewN] at * <;> omega))
        refine wp_region_L [⟨0, false, [], fun _ v _ => v = .agg #[.int .i64 c.room, .slice ac1 c.items.length pc1, .slice ac2 c.senders.length pc2, .slice ac3 c.getters.length pc3, .bool c.closed]⟩, ⟨1, false, [], fun _ v _ => v = .pointer (some ⟨b, 0, none⟩)⟩, ⟨2, false, [1], fun _ v _ => ∃ x : Int, v = .int .i64 x ∧ 0 ≤ x ∧ x < 6⟩, ⟨3, false, [0, 1, 2], fun _ v w' => ∃ vr r x st uy ok, v = .tuple #[vr, .int .i64 x, .int .i64 st, uy, .bool ok] ∧ ChanOwn w.heap.size w'.heap.size w' vr r ∧ ChanFew 7 r⟩, ⟨4, false, [0, 1, 2, 3], fun u v _ => v = u 3⟩, ⟨5, false, [0, 1, 2, 3, 4], fun u v _ => v = tget (u 4) 0⟩, ⟨6, false, [0, 1, 2, 3, 4], fun u v _ => v = tget (u 4) 1⟩, ⟨7, false, [0, 1, 2, 3, 4], fun u v _ => v = tget (u 4) 2⟩, ⟨8, false, [0, 1, 2, 3, 4], fun u v _ => v = tget (u 4) 3⟩, ⟨9, false, [0, 1, 2, 3, 4], fun u v _ => v = tget (u 4) 4⟩, ⟨10, false, [], fun _ v w' => ∃ g, v = .pointer (some ⟨g, 0, none⟩) ∧ w20.heap.size ≤ g ∧ ∃ cs : Array Value, w'.heap[g]? = some (.cells cs 25 (0, 0)) ∧ cs.size = 5⟩, ⟨11, true, [10, 0, 1, 2, 3, 4, 5], fun u _ w' => ∃ g cs, w20.heap.size ≤ g ∧ u 10 = .pointer (some ⟨g, 0, none⟩) ∧ u 5 = .agg cs ∧ w'.heap[g]? = some (.cells cs 25 (0, 0))⟩, ⟨12, false, [0, 1, 2, 3, 4, 6], fun u v _ => v = u 6⟩, ⟨13, false, [0, 1, 2, 3, 4, 7], fun u v _ => v = u 7⟩, ⟨14, false, [0, 1, 2, 3, 4, 8], fun u v _ => v = u 8⟩, ⟨15, false, [0, 1, 2, 3, 4, 9], fun u v _ => v = u 9⟩] [(0, some 43), (1, some 44), (2, some 45), (3, some 46), (4, some 42), (5, some 47), (6, some 48), (7, some 49), (8, some 50), (9, some 51), (10, some 7), (11, none), (12, some 8), (13, some 9), (14, some 10), (15, some 11)] (fun f w' => Dr w b ((N + 3 + 18 * (5 - k)) + (16 - f)) w' ∧ w20.heap.size ≤ w'.heap.size ∧ w'.heap[w2.heap.size]? = some (.cells #[.int .i64 c.room, .slice ac1 c.items.length pc1, .slice ac2 c.senders.length pc2, .slice ac3 c.getters.length pc3, .bool c.closed] 25 (0, 0)) ∧ w'.heap[w.heap.size]? = some (.cells #[.int .i64 0, .slice none 0 0, .slice none 0 0, .slice none 0 0, .bool false] 25 (0, 0)) ∧ ChanOwn w.heap.size hi_c w' (.agg #[.int .i64 c.room, .slice ac1 c.items.length pc1, .slice ac2 c.senders.length pc2, .slice ac3 c.getters.length pc3, .bool c.closed]) c) (fun x w1 w2 => if x = true then BoxW (w20.heap.size) 25 w1 w2 else w1.grownBy w2 (some b)) (by kernel_rfl) (by rfl) (by kernel_rfl) (by kernel_rfl) ⟨Dr.mono A20.out.drew (by omega), hN0, heap_drew Xc_20.out, heap_drew Xres_20.out, HI_c⟩ (GoalsL.cons ?_ (GoalsL.cons ?_ (GoalsL.cons ?_ (GoalsL.cons ?_ (GoalsL.cons ?_ (GoalsL.cons ?_ (GoalsL.cons ?_ (GoalsL.cons ?_ (GoalsL.cons ?_ (GoalsL.cons ?_ (GoalsL.cons ?_ (GoalsL.cons ?_ (GoalsL.cons ?_ (GoalsL.cons ?_ (GoalsL.cons ?_ (GoalsL.cons ?_ (GoalsL.nil))))))))))))))))) ?_
        · refine GoalL.mk (by rfl) (⟨fun _ _ _ _ _ h => h, fun _ _ _ _ _ _ h => h⟩) ?_
          intro f u w1 hf hC hD K hK
          replace hf : f < 16 := hf
          have hA := hC.1; have hN := hC.2.1; have hc := hC.2.2.1; have hres := hC.2.2.2.1; have oc := hC.2.2.2.2; clear hC
          clear hD
          simp only [putL, Act.put, List.setIfInBounds_toArray, List.set_cons_zero, List.set_cons_succ] at hK ⊢
          obtain ⟨cc_0, cc_1, cc_2, cc_3, cc_4, fc_0, fc_1, fc_2, fc_3, fc_4⟩ := box5 hc
          refine Closed.mk ?_
          go_simp
          exact hK.out _ _ ⟨hA.mono (by omega), hN, hc, hres, oc⟩ (World.grownBy.refl _ _) rfl
        · refine GoalL.mk (by rfl) (⟨fun _ _ _ _ _ h => h, fun _ _ _ _ _ _ h => h⟩) ?_
          intro f u w1 hf hC hD K hK
          replace hf : f < 16 := hf
          have hA := hC.1; have hN := hC.2.1; have hc := hC.2.2.1; have hres := hC.2.2.2.1; have oc := hC.2.2.2.2; clear hC
          clear hD
          simp only [putL, Act.put, List.setIfInBounds_toArray, List.set_cons_zero, List.set_cons_succ] at hK ⊢
          refine Closed.mk ?_
          go_simp
          exact hK.out _ _ ⟨hA.mono (by omega), hN, hc, hres, oc⟩ (World.grownBy.refl _ _) rfl
        · refine GoalL.mk (by rfl) (⟨fun _ _ _ _ _ h => h, fun _ _ _ _ _ _ h => h⟩) ?_
          intro f u w1 hf hC hD K hK
          replace hf : f < 16 := hf
          have hA := hC.1; have hN := hC.2.1; have hc := hC.2.2.1; have hres := hC.2.2.2.1; have oc := hC.2.2.2.2; clear hC
          have d1 := hD.1; clear hD
          have q1 : u 1 = .pointer (some ⟨b, 0, none⟩) := d1
          have e1 := q1; clear q1
          clear d1
          simp only [putL, Act.put, List.setIfInBounds_toArray, List.set_cons_zero, List.set_cons_succ, e1] at hK ⊢
          refine Closed.mk ?_
          go_simp
          refine (pickD b ((N + 3 + 18 * (5 - k)) + (16 - (f + 1))) 6 w _ hA (by omega) (by decide)).mono ?_
          rintro e w2 ⟨x, rfl, hx0, hx1, hd⟩
          exact hK.out _ _ ⟨(hA.then hd).mono (by omega), Nat.le_trans hN hd.size, (hd.at_ hc (by omega)), (hd.at_ hres (by omega)), (oc.past hd.g hlt)⟩ hd.g ⟨x, rfl, hx0, by omega⟩
        · refine GoalL.mk (by rfl) (⟨fun _ _ _ _ hR ⟨vr, r, x, st, uy, ok, h1, h2, h3⟩ => ⟨vr, r, x, st, uy, ok, h1, (h2.past hR hlt).mono (Nat.le_refl _) hR.size, h3⟩, fun _ _ _ _ _ hR ⟨vr, r, x, st, uy, ok, h1, h2, h3⟩ => ⟨vr, r, x, st, uy, ok, h1, (h2.boxW hR (by decide)).mono (Nat.le_refl _) hR.size, h3⟩⟩) ?_
          intro f u w1 hf hC hD K hK
          replace hf : f < 16 := hf
          have hA := hC.1; have hN := hC.2.1; have hc := hC.2.2.1; have hres := hC.2.2.2.1; have oc := hC.2.2.2.2; clear hC
          have d0 := hD.1; have d1 := hD.2.1; have d2 := hD.2.2.1; clear hD
          have q0 : u 0 = .agg #[.int .i64 c.room, .slice ac1 c.items.length pc1, .slice ac2 c.senders.length pc2, .slice ac3 c.getters.length pc3, .bool c.closed] := d0
          have e0 := q0; clear q0
          clear d0
          have q1 : u 1 = .pointer (some ⟨b, 0, none⟩) := d1
          have e1 := q1; clear q1
          clear d1
          have q2 : ∃ x : Int, u 2 = .int .i64 x ∧ 0 ≤ x ∧ x < 6 := d2
          obtain ⟨x2, e2, q2a, q2b⟩ := q2
          clear d2
          simp only [putL, Act.put, List.setIfInBounds_toArray, List.set_cons_zero, List.set_cons_succ, e0, e1, e2] at hK ⊢
          obtain ⟨r, x, st, uy, ok, hr⟩ : ∃ r x st uy ok, getC c x2 = (r, x, st, uy, ok) := ⟨_, _, _, _, _, rfl⟩
          refine Closed.mk ?_
          go_simp
          refine (sGetChanO _ c x2 r x st uy ok _ oc.row HN.out hr).mono ?_
          rintro e w2 ⟨vr, vu, rfl, ho, hu, hb⟩
          exact hK.out _ _ ⟨(hA.below hb).mono (by omega), Nat.le_trans hN hb.size, (below_at hb hc), (below_at hb hres), (oc.kept hb)⟩ (grown_of_below hb _) ⟨vr, r, x, st, vu, ok, rfl, ho.mono hA.size (Nat.le_refl _), get_few hr⟩
        · refine GoalL.mk (by rfl) (⟨fun _ _ _ _ _ h => h, fun _ _ _ _ _ _ h => h⟩) ?_
          intro f u w1 hf hC hD K hK
          replace hf : f < 16 := hf
          have hA := hC.1; have hN := hC.2.1; have hc := hC.2.2.1; have hres := hC.2.2.2.1; have oc := hC.2.2.2.2; clear hC
          have d0 := hD.1; have d1 := hD.2.1; have d2 := hD.2.2.1; have d3 := hD.2.2.2.1; clear hD
          have q0 : u 0 = .agg #[.int .i64 c.room, .slice ac1 c.items.length pc1, .slice ac2 c.senders.length pc2, .slice ac3 c.getters.length pc3, .bool c.closed] := d0
          have e0 := q0; clear q0
          clear d0
          have q1 : u 1 = .pointer (some ⟨b, 0, none⟩) := d1
          have e1 := q1; clear q1
          clear d1
          have q2 : ∃ x : Int, u 2 = .int .i64 x ∧ 0 ≤ x ∧ x < 6 := d2
          obtain ⟨x2, e2, q2a, q2b⟩ := q2
          clear d2
          have q3 : ∃ vr r x st uy ok, u 3 = .tuple #[vr, .int .i64 x, .int .i64 st, uy, .bool ok] ∧ ChanOwn w.heap.size w1.heap.size w1 vr r ∧ ChanFew 7 r := d3
          obtain ⟨vr3, r3, xx3, st3, uy3, ok3, e3, q3a, q3b⟩ := q3
          have w3 := q3a; obtain ⟨aq3_1, pq3_1, aq3_2, pq3_2, aq3_3, pq3_3, rfl, hx3⟩ := q3a; clear hx3
          clear d3
          simp only [putL, Act.put, List.setIfInBounds_toArray, List.set_cons_zero, List.set_cons_succ, e0, e1, e2, e3] at hK ⊢
          refine Closed.mk ?_
          go_simp
          exact hK.out _ _ ⟨hA.mono (by omega), hN, hc, hres, oc⟩ (World.grownBy.refl _ _) (by simp [mask, e3])
        · refine GoalL.mk (by rfl) (⟨fun _ _ _ _ _ h => h, fun _ _ _ _ _ _ h => h⟩) ?_
          intro f u w1 hf hC hD K hK
          replace hf : f < 16 := hf
          have hA := hC.1; have hN := hC.2.1; have hc := hC.2.2.1; have hres := hC.2.2.2.1; have oc := hC.2.2.2.2; clear hC
          have d0 := hD.1; have d1 := hD.2.1; have d2 := hD.2.2.1; have d3 := hD.2.2.2.1; have d4 := hD.2.2.2.2.1; clear hD
          have q0 : u 0 = .agg #[.int .i64 c.room, .slice ac1 c.items.length pc1, .slice ac2 c.senders.length pc2, .slice ac3 c.getters.length pc3, .bool c.closed] := d0
          have e0 := q0; clear q0
          clear d0
          have q1 : u 1 = .pointer (some ⟨b, 0, none⟩) := d1
          have e1 := q1; clear q1
          clear d1
          have q2 : ∃ x : Int, u 2 = .int .i64 x ∧ 0 ≤ x ∧ x < 6 := d2
          obtain ⟨x2, e2, q2a, q2b⟩ := q2
          clear d2
          have q3 : ∃ vr r x st uy ok, u 3 = .tuple #[vr, .int .i64 x, .int .i64 st, uy, .bool ok] ∧ ChanOwn w.heap.size w1.heap.size w1 vr r ∧ ChanFew 7 r := d3
          obtain ⟨vr3, r3, xx3, st3, uy3, ok3, e3, q3a, q3b⟩ := q3
          have w3 := q3a; obtain ⟨aq3_1, pq3_1, aq3_2, pq3_2, aq3_3, pq3_3, rfl, hx3⟩ := q3a; clear hx3
          clear d3
          have q4 : u 4 = u 3 := d4
          have e4 := q4; clear q4
          rw [e3] at e4
          clear d4
          simp only [putL, Act.put, List.setIfInBounds_toArray, List.set_cons_zero, List.set_cons_succ, e0, e1, e2, e3, e4] at hK ⊢
          refine Closed.mk ?_
          go_simp
          exact hK.out _ _ ⟨hA.mono (by omega), hN, hc, hres, oc⟩ (World.grownBy.refl _ _) (by simp [mask, tget, e4])
        · refine GoalL.mk (by rfl) (⟨fun _ _ _ _ _ h => h, fun _ _ _ _ _ _ h => h⟩) ?_
          intro f u w1 hf hC hD K hK
          replace hf : f < 16 := hf
          have hA := hC.1; have hN := hC.2.1; have hc := hC.2.2.1; have hres := hC.2.2.2.1; have oc := hC.2.2.2.2; clear hC
          have d0 := hD.1; have d1 := hD.2.1; have d2 := hD.2.2.1; have d3 := hD.2.2.2.1; have d4 := hD.2.2.2.2.1; clear hD
          have q0 : u 0 = .agg #[.int .i64 c.room, .slice ac1 c.items.length pc1, .slice ac2 c.senders.length pc2, .slice ac3 c.getters.length pc3, .bool c.closed] := d0
          have e0 := q0; clear q0
          clear d0
          have q1 : u 1 = .pointer (some ⟨b, 0, none⟩) := d1
          have e1 := q1; clear q1
          clear d1
          have q2 : ∃ x : Int, u 2 = .int .i64 x ∧ 0 ≤ x ∧ x < 6 := d2
          obtain ⟨x2, e2, q2a, q2b⟩ := q2
          clear d2
          have q3 : ∃ vr r x st uy ok, u 3 = .tuple #[vr, .int .i64 x, .int .i64 st, uy, .bool ok] ∧ ChanOwn w.heap.size w1.heap.size w1 vr r ∧ ChanFew 7 r := d3
          obtain ⟨vr3, r3, xx3, st3, uy3, ok3, e3, q3a, q3b⟩ := q3
          have w3 := q3a; obtain ⟨aq3_1, pq3_1, aq3_2, pq3_2, aq3_3, pq3_3, rfl, hx3⟩ := q3a; clear hx3
          clear d3
          have q4 : u 4 = u 3 := d4
          have e4 := q4; clear q4
          rw [e3] at e4
          clear d4
          simp only [putL, Act.put, List.setIfInBounds_toArray, List.set_cons_zero, List.set_cons_succ, e0, e1, e2, e3, e4] at hK ⊢
          refine Closed.mk ?_
          go_simp
          exact hK.out _ _ ⟨hA.mono (by omega), hN, hc, hres, oc⟩ (World.grownBy.refl _ _) (by simp [mask, tget, e4])
        · refine GoalL.mk (by rfl) (⟨fun _ _ _ _ _ h => h, fun _ _ _ _ _ _ h => h⟩) ?_
          intro f u w1 hf hC hD K hK
          replace hf : f < 16 := hf
          have hA := hC.1; have hN := hC.2.1; have hc := hC.2.2.1; have hres := hC.2.2.2.1; have oc := hC.2.2.2.2; clear hC
          have d0 := hD.1; have d1 := hD.2.1; have d2 := hD.2.2.1; have d3 := hD.2.2.2.1; have d4 := hD.2.2.2.2.1; clear hD
          have q0 : u 0 = .agg #[.int .i64 c.room, .slice ac1 c.items.length pc1, .slice ac2 c.senders.length pc2, .slice ac3 c.getters.length pc3, .bool c.closed] := d0
          have e0 := q0; clear q0
          clear d0
          have q1 : u 1 = .pointer (some ⟨b, 0, none⟩) := d1
          have e1 := q1; clear q1
          clear d1
          have q2 : ∃ x : Int, u 2 = .int .i64 x ∧ 0 ≤ x ∧ x < 6 := d2
          obtain ⟨x2, e2, q2a, q2b⟩ := q2
          clear d2
          have q3 : ∃ vr r x st uy ok, u 3 = .tuple #[vr, .int .i64 x, .int .i64 st, uy, .bool ok] ∧ ChanOwn w.heap.size w1.heap.size w1 vr r ∧ ChanFew 7 r := d3
          obtain ⟨vr3, r3, xx3, st3, uy3, ok3, e3, q3a, q3b⟩ := q3
          have w3 := q3a; obtain ⟨aq3_1, pq3_1, aq3_2, pq3_2, aq3_3, pq3_3, rfl, hx3⟩ := q3a; clear hx3
          clear d3
          have q4 : u 4 = u 3 := d4
          have e4 := q4; clear q4
          rw [e3] at e4
          clear d4
          simp only [putL, Act.put, List.setIfInBounds_toArray, List.set_cons_zero, List.set_cons_succ, e0, e1, e2, e3, e4] at hK ⊢
          refine Closed.mk ?_
          go_simp
          exact hK.out _ _ ⟨hA.mono (by omega), hN, hc, hres, oc⟩ (World.grownBy.refl _ _) (by simp [mask, tget, e4])
        · refine GoalL.mk (by rfl) (⟨fun _ _ _ _ _ h => h, fun _ _ _ _ _ _ h => h⟩) ?_
          intro f u w1 hf hC hD K hK
          replace hf : f < 16 := hf
          have hA := hC.1; have hN := hC.2.1; have hc := hC.2.2.1; have hres := hC.2.2.2.1; have oc := hC.2.2.2.2; clear hC
          have d0 := hD.1; have d1 := hD.2.1; have d2 := hD.2.2.1; have d3 := hD.2.2.2.1; have d4 := hD.2.2.2.2.1; clear hD
          have q0 : u 0 = .agg #[.int .i64 c.room, .slice ac1 c.items.length pc1, .slice ac2 c.senders.length pc2, .slice ac3 c.getters.length pc3, .bool c.closed] := d0
          have e0 := q0; clear q0
          clear d0
          have q1 : u 1 = .pointer (some ⟨b, 0, none⟩) := d1
          have e1 := q1; clear q1
          clear d1
          have q2 : ∃ x : Int, u 2 = .int .i64 x ∧ 0 ≤ x ∧ x < 6 := d2
          obtain ⟨x2, e2, q2a, q2b⟩ := q2
          clear d2
          have q3 : ∃ vr r x st uy ok, u 3 = .tuple #[vr, .int .i64 x, .int .i64 st, uy, .bool ok] ∧ ChanOwn w.heap.size w1.heap.size w1 vr r ∧ ChanFew 7 r := d3
          obtain ⟨vr3, r3, xx3, st3, uy3, ok3, e3, q3a, q3b⟩ := q3
          have w3 := q3a; obtain ⟨aq3_1, pq3_1, aq3_2, pq3_2, aq3_3, pq3_3, rfl, hx3⟩ := q3a; clear hx3
          clear d3
          have q4 : u 4 = u 3 := d4
          have e4 := q4; clear q4
          rw [e3] at e4
          clear d4
          simp only [putL, Act.put, List.setIfInBounds_toArray, List.set_cons_zero, List.set_cons_succ, e0, e1, e2, e3, e4] at hK ⊢
          refine Closed.mk ?_
          go_simp
          exact hK.out _ _ ⟨hA.mono (by omega), hN, hc, hres, oc⟩ (World.grownBy.refl _ _) (by simp [mask, tget, e4])
        · refine GoalL.mk (by rfl) (⟨fun _ _ _ _ _ h => h, fun _ _ _ _ _ _ h => h⟩) ?_
          intro f u w1 hf hC hD K hK
          replace hf : f < 16 := hf
          have hA := hC.1; have hN := hC.2.1; have hc := hC.2.2.1; have hres := hC.2.2.2.1; have oc := hC.2.2.2.2; clear hC
          have d0 := hD.1; have d1 := hD.2.1; have d2 := hD.2.2.1; have d3 := hD.2.2.2.1; have d4 := hD.2.2.2.2.1; clear hD
          have q0 : u 0 = .agg #[.int .i64 c.room, .slice ac1 c.items.length pc1, .slice ac2 c.senders.length pc2, .slice ac3 c.getters.length pc3, .bool c.closed] := d0
          have e0 := q0; clear q0
          clear d0
          have q1 : u 1 = .pointer (some ⟨b, 0, none⟩) := d1
          have e1 := q1; clear q1
          clear d1
          have q2 : ∃ x : Int, u 2 = .int .i64 x ∧ 0 ≤ x ∧ x < 6 := d2
          obtain ⟨x2, e2, q2a, q2b⟩ := q2
          clear d2
          have q3 : ∃ vr r x st uy ok, u 3 = .tuple #[vr, .int .i64 x, .int .i64 st, uy, .bool ok] ∧ ChanOwn w.heap.size w1.heap.size w1 vr r ∧ ChanFew 7 r := d3
          obtain ⟨vr3, r3, xx3, st3, uy3, ok3, e3, q3a, q3b⟩ := q3
          have w3 := q3a; obtain ⟨aq3_1, pq3_1, aq3_2, pq3_2, aq3_3, pq3_3, rfl, hx3⟩ := q3a; clear hx3
          clear d3
          have q4 : u 4 = u 3 := d4
          have e4 := q4; clear q4
          rw [e3] at e4
          clear d4
          simp only [putL, Act.put, List.setIfInBounds_toArray, List.set_cons_zero, List.set_cons_succ, e0, e1, e2, e3, e4] at hK ⊢
          refine Closed.mk ?_
          go_simp
          exact hK.out _ _ ⟨hA.mono (by omega), hN, hc, hres, oc⟩ (World.grownBy.refl _ _) (by simp [mask, tget, e4])
        · refine GoalL.mk (by rfl) (⟨fun _ _ _ _ hR ⟨g, h1, h2, cs, h3, h4⟩ => ⟨g, h1, h2, cs, grown_at hR h3 (by omega), h4⟩, fun _ _ _ _ _ hR ⟨g, h1, h2, cs, h3, h4⟩ => (boxW_shape h3 hR).elim fun cs' h => ⟨g, h1, h2, cs', h.1, by rw [h.2, h4]⟩⟩) ?_
          intro f u w1 hf hC hD K hK
          replace hf : f < 16 := hf
          have hA := hC.1; have hN := hC.2.1; have hc := hC.2.2.1; have hres := hC.2.2.2.1; have oc := hC.2.2.2.2; clear hC
          clear hD
          simp only [putL, Act.put, List.setIfInBounds_toArray, List.set_cons_zero, List.set_cons_succ] at hK ⊢
          refine Closed.mk ?_
          go_simp
          exact hK.out _ _ ⟨(hA.alloc _).mono (by omega), Nat.le_trans hN (alloc_le _ _), (heap_up hc), (heap_up hres), (oc.alloc _)⟩ (World.grownBy_alloc _ _ _) ⟨_, rfl, hN, _, heap_at _ _, rfl⟩
        · refine GoalL.mk (by rfl) (⟨fun u v w w' hR ⟨g, cs, h0, h1, h2, h3⟩ => ⟨g, cs, h0, h1, h2, grown_at hR h3 (by have := hlt; omega)⟩, fun h => by cases h⟩) ?_
          intro f u w1 hf hC hD K hK
          replace hf : f < 16 := hf
          have hA := hC.1; have hN := hC.2.1; have hc := hC.2.2.1; have hres := hC.2.2.2.1; have oc := hC.2.2.2.2; clear hC
          have d10 := hD.1; have d0 := hD.2.1; have d1 := hD.2.2.1; have d2 := hD.2.2.2.1; have d3 := hD.2.2.2.2.1; have d4 := hD.2.2.2.2.2.1; have d5 := hD.2.2.2.2.2.2.1; clear hD
          have q10 : ∃ g, u 10 = .pointer (some ⟨g, 0, none⟩) ∧ w20.heap.size ≤ g ∧ ∃ cs : Array Value, w1.heap[g]? = some (.cells cs 25 (0, 0)) ∧ cs.size = 5 := d10
          obtain ⟨g10, e10, q10a, cs10, q10b, q10c⟩ := q10
          clear d10
          have q0 : u 0 = .agg #[.int .i64 c.room, .slice ac1 c.items.length pc1, .slice ac2 c.senders.length pc2, .slice ac3 c.getters.length pc3, .bool c.closed] := d0
          have e0 := q0; clear q0
          clear d0
          have q1 : u 1 = .pointer (some ⟨b, 0, none⟩) := d1
          have e1 := q1; clear q1
          clear d1
          have q2 : ∃ x : Int, u 2 = .int .i64 x ∧ 0 ≤ x ∧ x < 6 := d2
          obtain ⟨x2, e2, q2a, q2b⟩ := q2
          clear d2
          have q3 : ∃ vr r x st uy ok, u 3 = .tuple #[vr, .int .i64 x, .int .i64 st, uy, .bool ok] ∧ ChanOwn w.heap.size w1.heap.size w1 vr r ∧ ChanFew 7 r := d3
          obtain ⟨vr3, r3, xx3, st3, uy3, ok3, e3, q3a, q3b⟩ := q3
          have w3 := q3a; obtain ⟨aq3_1, pq3_1, aq3_2, pq3_2, aq3_3, pq3_3, rfl, hx3⟩ := q3a; clear hx3
          clear d3
          have q4 : u 4 = u 3 := d4
          have e4 := q4; clear q4
          rw [e3] at e4
          clear d4
          have q5 : u 5 = tget (u 4) 0 := d5
          have e5 := q5; clear q5
          rw [e4] at e5
          simp only [tget] at e5
          replace e5 : u 5 = (.agg #[.int .i64 r3.room, .slice aq3_1 r3.items.length pq3_1, .slice aq3_2 r3.senders.length pq3_2, .slice aq3_3 r3.getters.length pq3_3, .bool r3.closed]) := e5
          clear d5
          simp only [putL, Act.put, List.setIfInBounds_toArray, List.set_cons_zero, List.set_cons_succ, e10, e0, e1, e2, e3, e4, e5] at hK ⊢
          obtain ⟨z0, z1, z2, z3, z4, rfl⟩ := cells5 q10c
          obtain ⟨c9_0, c9_1, c9_2, c9_3, c9_4, f9_0, f9_1, f9_2, f9_3, f9_4⟩ := box5 q10b
          refine Closed.mk ?_
          go_simp
          exact hK.out undef _ ⟨(((((hA.set (a := ⟨g10, 0, none⟩) (show w.heap.size ≤ g10 by omega) (.int .i64 r3.room)).set (a := ⟨g10, 1, none⟩) (show w.heap.size ≤ g10 by omega) (.slice aq3_1 r3.items.length pq3_1)).set (a := ⟨g10, 2, none⟩) (show w.heap.size ≤ g10 by omega) (.slice aq3_2 r3.senders.length pq3_2)).set (a := ⟨g10, 3, none⟩) (show w.heap.size ≤ g10 by omega) (.slice aq3_3 r3.getters.length pq3_3)).set (a := ⟨g10, 4, none⟩) (show w.heap.size ≤ g10 by omega) (.bool r3.closed)).mono (by omega), (by simp only [szS]; exact hN), (set_off (a := ⟨g10, 4, none⟩) (set_off (a := ⟨g10, 3, none⟩) (set_off (a := ⟨g10, 2, none⟩) (set_off (a := ⟨g10, 1, none⟩) (set_off (a := ⟨g10, 0, none⟩) hc (show g10 ≠ _ by omega) (.int .i64 r3.room)) (show g10 ≠ _ by omega) (.slice aq3_1 r3.items.length pq3_1)) (show g10 ≠ _ by omega) (.slice aq3_2 r3.senders.length pq3_2)) (show g10 ≠ _ by omega) (.slice aq3_3 r3.getters.length pq3_3)) (show g10 ≠ _ by omega) (.bool r3.closed)), (set_off (a := ⟨g10, 4, none⟩) (set_off (a := ⟨g10, 3, none⟩) (set_off (a := ⟨g10, 2, none⟩) (set_off (a := ⟨g10, 1, none⟩) (set_off (a := ⟨g10, 0, none⟩) hres (show g10 ≠ _ by omega) (.int .i64 r3.room)) (show g10 ≠ _ by omega) (.slice aq3_1 r3.items.length pq3_1)) (show g10 ≠ _ by omega) (.slice aq3_2 r3.senders.length pq3_2)) (show g10 ≠ _ by omega) (.slice aq3_3 r3.getters.length pq3_3)) (show g10 ≠ _ by omega) (.bool r3.closed)), (((((oc.setB g10 0 q10b (by decide) (.int .i64 r3.room)).setB g10 1 (set_at (a := ⟨g10, 0, none⟩) q10b rfl rfl (.int .i64 r3.room)) (by decide) (.slice aq3_1 r3.items.length pq3_1)).setB g10 2 (set_at (a := ⟨g10, 1, none⟩) (set_at (a := ⟨g10, 0, none⟩) q10b rfl rfl (.int .i64 r3.room)) rfl rfl (.slice aq3_1 r3.items.length pq3_1)) (by decide) (.slice aq3_2 r3.senders.length pq3_2)).setB g10 3 (set_at (a := ⟨g10, 2, none⟩) (set_at (a := ⟨g10, 1, none⟩) (set_at (a := ⟨g10, 0, none⟩) q10b rfl rfl (.int .i64 r3.room)) rfl rfl (.slice aq3_1 r3.items.length pq3_1)) rfl rfl (.slice aq3_2 r3.senders.length pq3_2)) (by decide) (.slice aq3_3 r3.getters.length pq3_3)).setB g10 4 (set_at (a := ⟨g10, 3, none⟩) (set_at (a := ⟨g10, 2, none⟩) (set_at (a := ⟨g10, 1, none⟩) (set_at (a := ⟨g10, 0, none⟩) q10b rfl rfl (.int .i64 r3.room)) rfl rfl (.slice aq3_1 r3.items.length pq3_1)) rfl rfl (.slice aq3_2 r3.senders.length pq3_2)) rfl rfl (.slice aq3_3 r3.getters.length pq3_3)) (by decide) (.bool r3.closed))⟩ ⟨g10, _, _, q10a, q10b, (set_at (a := ⟨g10, 4, none⟩) (set_at (a := ⟨g10, 3, none⟩) (set_at (a := ⟨g10, 2, none⟩) (set_at (a := ⟨g10, 1, none⟩) (set_at (a := ⟨g10, 0, none⟩) q10b rfl rfl (.int .i64 r3.room)) rfl rfl (.slice aq3_1 r3.items.length pq3_1)) rfl rfl (.slice aq3_2 r3.senders.length pq3_2)) rfl rfl (.slice aq3_3 r3.getters.length pq3_3)) rfl rfl (.bool r3.closed)), rfl, (grown_set (a := ⟨g10, 4, none⟩) (grown_set (a := ⟨g10, 3, none⟩) (grown_set (a := ⟨g10, 2, none⟩) (grown_set (a := ⟨g10, 1, none⟩) (grown_set (a := ⟨g10, 0, none⟩) (World.grownBy.refl _ _) rfl (.int .i64 r3.room)) rfl (.slice aq3_1 r3.items.length pq3_1)) rfl (.slice aq3_2 r3.senders.length pq3_2)) rfl (.slice aq3_3 r3.getters.length pq3_3)) rfl (.bool r3.closed))⟩ ⟨g10, _, q10a, (by simp [mask, e10]), (by first | (simp [mask, e5]; done) | (simp [mask, e5]; rfl)), (set_at (a := ⟨g10, 4, none⟩) (set_at (a := ⟨g10, 3, none⟩) (set_at (a := ⟨g10, 2, none⟩) (set_at (a := ⟨g10, 1, none⟩) (set_at (a := ⟨g10, 0, none⟩) q10b rfl rfl (.int .i64 r3.room)) rfl rfl (.slice aq3_1 r3.items.length pq3_1)) rfl rfl (.slice aq3_2 r3.senders.length pq3_2)) rfl rfl (.slice aq3_3 r3.getters.length pq3_3)) rfl rfl (.bool r3.closed))⟩
        · refine GoalL.mk (by rfl) (⟨fun _ _ _ _ _ h => h, fun _ _ _ _ _ _ h => h⟩) ?_
          intro f u w1 hf hC hD K hK
          replace hf : f < 16 := hf
          have hA := hC.1; have hN := hC.2.1; have hc := hC.2.2.1; have hres := hC.2.2.2.1; have oc := hC.2.2.2.2; clear hC
          have d0 := hD.1; have d1 := hD.2.1; have d2 := hD.2.2.1; have d3 := hD.2.2.2.1; have d4 := hD.2.2.2.2.1; have d6 := hD.2.2.2.2.2.1; clear hD
          have q0 : u 0 = .agg #[.int .i64 c.room, .slice ac1 c.items.length pc1, .slice ac2 c.senders.length pc2, .slice ac3 c.getters.length pc3, .bool c.closed] := d0
          have e0 := q0; clear q0
          clear d0
          have q1 : u 1 = .pointer (some ⟨b, 0, none⟩) := d1
          have e1 := q1; clear q1
          clear d1
          have q2 : ∃ x : Int, u 2 = .int .i64 x ∧ 0 ≤ x ∧ x < 6 := d2
          obtain ⟨x2, e2, q2a, q2b⟩ := q2
          clear d2
          have q3 : ∃ vr r x st uy ok, u 3 = .tuple #[vr, .int .i64 x, .int .i64 st, uy, .bool ok] ∧ ChanOwn w.heap.size w1.heap.size w1 vr r ∧ ChanFew 7 r := d3
          obtain ⟨vr3, r3, xx3, st3, uy3, ok3, e3, q3a, q3b⟩ := q3
          have w3 := q3a; obtain ⟨aq3_1, pq3_1, aq3_2, pq3_2, aq3_3, pq3_3, rfl, hx3⟩ := q3a; clear hx3
          clear d3
          have q4 : u 4 = u 3 := d4
          have e4 := q4; clear q4
          rw [e3] at e4
          clear d4
          have q6 : u 6 = tget (u 4) 1 := d6
          have e6 := q6; clear q6
          rw [e4] at e6
          simp only [tget] at e6
          replace e6 : u 6 = .int .i64 xx3 := e6
          clear d6
          simp only [putL, Act.put, List.setIfInBounds_toArray, List.set_cons_zero, List.set_cons_succ, e0, e1, e2, e3, e4, e6] at hK ⊢
          refine Closed.mk ?_
          go_simp
          exact hK.out _ _ ⟨hA.mono (by omega), hN, hc, hres, oc⟩ (World.grownBy.refl _ _) (by simp [mask, e6])
        · refine GoalL.mk (by rfl) (⟨fun _ _ _ _ _ h => h, fun _ _ _ _ _ _ h => h⟩) ?_
          intro f u w1 hf hC hD K hK
          replace hf : f < 16 := hf
          have hA := hC.1; have hN := hC.2.1; have hc := hC.2.2.1; have hres := hC.2.2.2.1; have oc := hC.2.2.2.2; clear hC
          have d0 := hD.1; have d1 := hD.2.1; have d2 := hD.2.2.1; have d3 := hD.2.2.2.1; have d4 := hD.2.2.2.2.1; have d7 := hD.2.2.2.2.2.1; clear hD
          have q0 : u 0 = .agg #[.int .i64 c.room, .slice ac1 c.items.length pc1, .slice ac2 c.senders.length pc2, .slice ac3 c.getters.length pc3, .bool c.closed] := d0
          have e0 := q0; clear q0
          clear d0
          have q1 : u 1 = .pointer (some ⟨b, 0, none⟩) := d1
          have e1 := q1; clear q1
          clear d1
          have q2 : ∃ x : Int, u 2 = .int .i64 x ∧ 0 ≤ x ∧ x < 6 := d2
          obtain ⟨x2, e2, q2a, q2b⟩ := q2
          clear d2
          have q3 : ∃ vr r x st uy ok, u 3 = .tuple #[vr, .int .i64 x, .int .i64 st, uy, .bool ok] ∧ ChanOwn w.heap.size w1.heap.size w1 vr r ∧ ChanFew 7 r := d3
          obtain ⟨vr3, r3, xx3, st3, uy3, ok3, e3, q3a, q3b⟩ := q3
          have w3 := q3a; obtain ⟨aq3_1, pq3_1, aq3_2, pq3_2, aq3_3, pq3_3, rfl, hx3⟩ := q3a; clear hx3
          clear d3
          have q4 : u 4 = u 3 := d4
          have e4 := q4; clear q4
          rw [e3] at e4
          clear d4
          have q7 : u 7 = tget (u 4) 2 := d7
          have e7 := q7; clear q7
          rw [e4] at e7
          simp only [tget] at e7
          replace e7 : u 7 = .int .i64 st3 := e7
          clear d7
          simp only [putL, Act.put, List.setIfInBounds_toArray, List.set_cons_zero, List.set_cons_succ, e0, e1, e2, e3, e4, e7] at hK ⊢
          refine Closed.mk ?_
          go_simp
          exact hK.out _ _ ⟨hA.mono (by omega), hN, hc, hres, oc⟩ (World.grownBy.refl _ _) (by simp [mask, e7])
        · refine GoalL.mk (by rfl) (⟨fun _ _ _ _ _ h => h, fun _ _ _ _ _ _ h => h⟩) ?_
          intro f u w1 hf hC hD K hK
          replace hf : f < 16 := hf
          have hA := hC.1; have hN := hC.2.1; have hc := hC.2.2.1; have hres := hC.2.2.2.1; have oc := hC.2.2.2.2; clear hC
          have d0 := hD.1; have d1 := hD.2.1; have d2 := hD.2.2.1; have d3 := hD.2.2.2.1; have d4 := hD.2.2.2.2.1; have d8 := hD.2.2.2.2.2.1; clear hD
          have q0 : u 0 = .agg #[.int .i64 c.room, .slice ac1 c.items.length pc1, .slice ac2 c.senders.length pc2, .slice ac3 c.getters.length pc3, .bool c.closed] := d0
          have e0 := q0; clear q0
          clear d0
          have q1 : u 1 = .pointer (some ⟨b, 0, none⟩) := d1
          have e1 := q1; clear q1
          clear d1
          have q2 : ∃ x : Int, u 2 = .int .i64 x ∧ 0 ≤ x ∧ x < 6 := d2
          obtain ⟨x2, e2, q2a, q2b⟩ := q2
          clear d2
          have q3 : ∃ vr r x st uy ok, u 3 = .tuple #[vr, .int .i64 x, .int .i64 st, uy, .bool ok] ∧ ChanOwn w.heap.size w1.heap.size w1 vr r ∧ ChanFew 7 r := d3
          obtain ⟨vr3, r3, xx3, st3, uy3, ok3, e3, q3a, q3b⟩ := q3
          have w3 := q3a; obtain ⟨aq3_1, pq3_1, aq3_2, pq3_2, aq3_3, pq3_3, rfl, hx3⟩ := q3a; clear hx3
          clear d3
          have q4 : u 4 = u 3 := d4
          have e4 := q4; clear q4
          rw [e3] at e4
          clear d4
          have q8 : u 8 = tget (u 4) 3 := d8
          have e8 := q8; clear q8
          rw [e4] at e8
          simp only [tget] at e8
          replace e8 : u 8 = uy3 := e8
          clear d8
          simp only [putL, Act.put, List.setIfInBounds_toArray, List.set_cons_zero, List.set_cons_succ, e0, e1, e2, e3, e4, e8] at hK ⊢
          refine Closed.mk ?_
          go_simp
          exact hK.out _ _ ⟨hA.mono (by omega), hN, hc, hres, oc⟩ (World.grownBy.refl _ _) (by simp [mask, e8])
        · refine GoalL.mk (by rfl) (⟨fun _ _ _ _ _ h => h, fun _ _ _ _ _ _ h => h⟩) ?_
          intro f u w1 hf hC hD K hK
          replace hf : f < 16 := hf
          have hA := hC.1; have hN := hC.2.1; have hc := hC.2.2.1; have hres := hC.2.2.2.1; have oc := hC.2.2.2.2; clear hC
          have d0 := hD.1; have d1 := hD.2.1; have d2 := hD.2.2.1; have d3 := hD.2.2.2.1; have d4 := hD.2.2.2.2.1; have d9 := hD.2.2.2.2.2.1; clear hD
          have q0 : u 0 = .agg #[.int .i64 c.room, .slice ac1 c.items.length pc1, .slice ac2 c.senders.length pc2, .slice ac3 c.getters.length pc3, .bool c.closed] := d0
          have e0 := q0; clear q0
          clear d0
          have q1 : u 1 = .pointer (some ⟨b, 0, none⟩) := d1
          have e1 := q1; clear q1
          clear d1
          have q2 : ∃ x : Int, u 2 = .int .i64 x ∧ 0 ≤ x ∧ x < 6 := d2
          obtain ⟨x2, e2, q2a, q2b⟩ := q2
          clear d2
          have q3 : ∃ vr r x st uy ok, u 3 = .tuple #[vr, .int .i64 x, .int .i64 st, uy, .bool ok] ∧ ChanOwn w.heap.size w1.heap.size w1 vr r ∧ ChanFew 7 r := d3
          obtain ⟨vr3, r3, xx3, st3, uy3, ok3, e3, q3a, q3b⟩ := q3
          have w3 := q3a; obtain ⟨aq3_1, pq3_1, aq3_2, pq3_2, aq3_3, pq3_3, rfl, hx3⟩ := q3a; clear hx3
          clear d3
          have q4 : u 4 = u 3 := d4
          have e4 := q4; clear q4
          rw [e3] at e4
          clear d4
          have q9 : u 9 = tget (u 4) 4 := d9
          have e9 := q9; clear q9
          rw [e4] at e9
          simp only [tget] at e9
          replace e9 : u 9 = .bool ok3 := e9
          clear d9
          simp only [putL, Act.put, List.setIfInBounds_toArray, List.set_cons_zero, List.set_cons_succ, e0, e1, e2, e3, e4, e9] at hK ⊢
          refine Closed.mk ?_
          go_simp
          exact hK.out _ _ ⟨hA.mono (by omega), hN, hc, hres, oc⟩ (World.grownBy.refl _ _) (by simp [mask, e9])
        intro u w21 hC hD
        have hA := hC.1; have hN := hC.2.1; have hc := hC.2.2.1; have hres := hC.2.2.2.1; have oc := hC.2.2.2.2; clear hC
        have d0 := hD.1; have d1 := hD.2.1; have d2 := hD.2.2.1; have d3 := hD.2.2.2.1; have d4 := hD.2.2.2.2.1; have d5 := hD.2.2.2.2.2.1; have d6 := hD.2.2.2.2.2.2.1; have d7 := hD.2.2.2.2.2.2.2.1; have d8 := hD.2.2.2.2.2.2.2.2.1; have d9 := hD.2.2.2.2.2.2.2.2.2.1; have d10 := hD.2.2.2.2.2.2.2.2.2.2.1; have d11 := hD.2.2.2.2.2.2.2.2.2.2.2.1; have d12 := hD.2.2.2.2.2.2.2.2.2.2.2.2.1; have d13 := hD.2.2.2.2.2.2.2.2.2.2.2.2.2.1; have d14 := hD.2.2.2.2.2.2.2.2.2.2.2.2.2.2.1; have d15 := hD.2.2.2.2.2.2.2.2.2.2.2.2.2.2.2.1; clear hD
        have q0 : u 0 = .agg #[.int .i64 c.room, .slice ac1 c.items.length pc1, .slice ac2 c.senders.length pc2, .slice ac3 c.getters.length pc3, .bool c.closed] := d0
        have e0 := q0; clear q0
        clear d0
        have q1 : u 1 = .pointer (some ⟨b, 0, none⟩) := d1
        have e1 := q1; clear q1
        clear d1
        have q2 : ∃ x : Int, u 2 = .int .i64 x ∧ 0 ≤ x ∧ x < 6 := d2
        obtain ⟨x2, e2, q2a, q2b⟩ := q2
        clear d2
        have q3 : ∃ vr r x st uy ok, u 3 = .tuple #[vr, .int .i64 x, .int .i64 st, uy, .bool ok] ∧ ChanOwn w.heap.size w21.heap.size w21 vr r ∧ ChanFew 7 r := d3
        obtain ⟨vr3, r3, xx3, st3, uy3, ok3, e3, q3a, q3b⟩ := q3
        have w3 := q3a; obtain ⟨aq3_1, pq3_1, aq3_2, pq3_2, aq3_3, pq3_3, rfl, hx3⟩ := q3a; clear hx3
        clear d3
        have q4 : u 4 = u 3 := d4
        have e4 := q4; clear q4
        rw [e3] at e4
        clear d4
        have q5 : u 5 = tget (u 4) 0 := d5
        have e5 := q5; clear q5
        rw [e4] at e5
        simp only [tget] at e5
        replace e5 : u 5 = (.agg #[.int .i64 r3.room, .slice aq3_1 r3.items.length pq3_1, .slice aq3_2 r3.senders.length pq3_2, .slice aq3_3 r3.getters.length pq3_3, .bool r3.closed]) := e5
        clear d5
        have q6 : u 6 = tget (u 4) 1 := d6
        have e6 := q6; clear q6
        rw [e4] at e6
        simp only [tget] at e6
        replace e6 : u 6 = .int .i64 xx3 := e6
        clear d6
        have q7 : u 7 = tget (u 4) 2 := d7
        have e7 := q7; clear q7
        rw [e4] at e7
        simp only [tget] at e7
        replace e7 : u 7 = .int .i64 st3 := e7
        clear d7
        have q8 : u 8 = tget (u 4) 3 := d8
        have e8 := q8; clear q8
        rw [e4] at e8
        simp only [tget] at e8
        replace e8 : u 8 = uy3 := e8
        clear d8
        have q9 : u 9 = tget (u 4) 4 := d9
        have e9 := q9; clear q9
        rw [e4] at e9
        simp only [tget] at e9
        replace e9 : u 9 = .bool ok3 := e9
        clear d9
        have q10 : ∃ g, u 10 = .pointer (some ⟨g, 0, none⟩) ∧ w20.heap.size ≤ g ∧ ∃ cs : Array Value, w21.heap[g]? = some (.cells cs 25 (0, 0)) ∧ cs.size = 5 := d10
        obtain ⟨g10, e10, q10a, cs10, q10b, q10c⟩ := q10
        clear d10
        have q11 : ∃ g cs, w20.heap.size ≤ g ∧ u 10 = .pointer (some ⟨g, 0, none⟩) ∧ u 5 = .agg cs ∧ w21.heap[g]? = some (.cells cs 25 (0, 0)) := d11
        clear d11
        have q12 : u 12 = u 6 := d12
        have e12 := q12; clear q12
        rw [e6] at e12
        clear d12
        have q13 : u 13 = u 7 := d13
        have e13 := q13; clear q13
        rw [e7] at e13
        clear d13
        have q14 : u 14 = u 8 := d14
        have e14 := q14; clear q14
        rw [e8] at e14
        clear d14
        have q15 : u 15 = u 9 := d15
        have e15 := q15; clear q15
        rw [e9] at e15
        clear d15
        replace hA : Dr w b ((N + 3 + 18 * (5 - k)) + (16 - (16 - 16))) w21 := hA
        have A21 : Hid (Dr w b ((N + 3 + 18 * (5 - k)) + 16) w21) := hA.mono (by omega)
        have N21 := hN; have S21 := hA.size
        have Xc_21 := Lib.hid hc; clear hc
        have Xres_21 := Lib.hid hres; clear hres
        have Oc_21 := Lib.hid oc; clear oc
        obtain ⟨gg, cc, hg0, hg1, hg2, hg3⟩ := q11
        clear hg0; have hg4 := same_tuple e10 hg1; have hg5 := same_agg e5 hg2
        rw [hg4, hg5] at hg3
        clear hg1 hg2 hg4 hg5
        have Xnew_21 := Lib.hid hg3; clear hg3 q10b q10c
        have Oq3__21 := Lib.hid w3; clear w3
        have HV3 := Lib.hid q3b; clear q3b
        obtain ⟨cc21_0, cc21_1, cc21_2, cc21_3, cc21_4, fc21_0, fc21_1, fc21_2, fc21_3, fc21_4⟩ := box5 Xc_21.out; have lc21 := heap_lt Xc_21.out
        obtain ⟨cres21_0, cres21_1, cres21_2, cres21_3, cres21_4, fres21_0, fres21_1, fres21_2, fres21_3, fres21_4⟩ := box5 Xres_21.out; have lres21 := heap_lt Xres_21.out
        obtain ⟨cnew21_0, cnew21_1, cnew21_2, cnew21_3, cnew21_4, fnew21_0, fnew21_1, fnew21_2, fnew21_3, fnew21_4⟩ := box5 Xnew_21.out; have lnew21 := heap_lt Xnew_21.out
        clear hA hN
        simp only [putL, Act.put, List.setIfInBounds_toArray, List.set_cons_zero, List.set_cons_succ, e0, e1, e2, e3, e4, e5, e6, e7, e8, e9, e10, e12, e13, e14, e15]
        refine Closed.mk ?_
        refine wpAnyH_done (by kernel_rfl) ?_ _
        cases ok3
        · go_wp2
          go_roundw
          case rel => exact ⟨k - 1, c, _, _, _, _, _, _, by omega, by go_num, Xc_21.out, Xres_21.out, Oc_21.out.tight, VC.out, A21.out.mono (by omega), by first | omega | (simp only [szA, szS, szD]; omega)⟩
          case measure => simp [intOf]; omega
        · go_wp2
          go_roundw
          case rel => exact ⟨k - 1, r3, _, _, _, _, _, _, by omega, by go_num, (set_at (a := ⟨w2.heap.size, 4, none⟩) (set_at (a := ⟨w2.heap.size, 3, none⟩) (set_at (a := ⟨w2.heap.size, 2, none⟩) (set_at (a := ⟨w2.heap.size, 1, none⟩) (set_at (a := ⟨w2.heap.size, 0, none⟩) Xc_21.out rfl rfl (.int .i64 r3.room)) rfl rfl (.slice aq3_1 r3.items.length pq3_1)) rfl rfl (.slice aq3_2 r3.senders.length pq3_2)) rfl rfl (.slice aq3_3 r3.getters.length pq3_3)) rfl rfl (.bool r3.closed)), (set_off (a := ⟨w2.heap.size, 4, none⟩) (set_off (a := ⟨w2.heap.size, 3, none⟩) (set_off (a := ⟨w2.heap.size, 2, none⟩) (set_off (a := ⟨w2.heap.size, 1, none⟩) (set_off (a := ⟨w2.heap.size, 0, none⟩) Xres_21.out (by first | omega | (simp only [szA, szS, szD, World.heap_drewN] at * <;> omega)) (.int .i64 r3.room)) (by first | omega | (simp only [szA, szS, szD, World.heap_drewN] at * <;> omega)) (.slice aq3_1 r3.items.length pq3_1)) (by first | omega | (simp only [szA, szS, szD, World.heap_drewN] at * <;> omega)) (.slice aq3_2 r3.senders.length pq3_2)) (by first | omega | (simp only [szA, szS, szD, World.heap_drewN] at * <;> omega)) (.slice aq3_3 r3.getters.length pq3_3)) (by first | omega | (simp only [szA, szS, szD, World.heap_drewN] at * <;> omega)) (.bool r3.closed)), (((((Oq3__21.out.setB (w2.heap.size) 0 Xc_21.out (by decide) (.int .i64 r3.room)).setB (w2.heap.size) 1 (set_at (a := ⟨w2.heap.size, 0, none⟩) Xc_21.out rfl rfl (.int .i64 r3.room)) (by decide) (.slice aq3_1 r3.items.length pq3_1)).setB (w2.heap.size) 2 (set_at (a := ⟨w2.heap.size, 1, none⟩) (set_at (a := ⟨w2.heap.size, 0, none⟩) Xc_21.out rfl rfl (.int .i64 r3.room)) rfl rfl (.slice aq3_1 r3.items.length pq3_1)) (by decide) (.slice aq3_2 r3.senders.length pq3_2)).setB (w2.heap.size) 3 (set_at (a := ⟨w2.heap.size, 2, none⟩) (set_at (a := ⟨w2.heap.size, 1, none⟩) (set_at (a := ⟨w2.heap.size, 0, none⟩) Xc_21.out rfl rfl (.int .i64 r3.room)) rfl rfl (.slice aq3_1 r3.items.length pq3_1)) rfl rfl (.slice aq3_2 r3.senders.length pq3_2)) (by decide) (.slice aq3_3 r3.getters.length pq3_3)).setB (w2.heap.size) 4 (set_at (a := ⟨w2.heap.size, 3, none⟩) (set_at (a := ⟨w2.heap.size, 2, none⟩) (set_at (a := ⟨w2.heap.size, 1, none⟩) (set_at (a := ⟨w2.heap.size, 0, none⟩) Xc_21.out rfl rfl (.int .i64 r3.room)) rfl rfl (.slice aq3_1 r3.items.length pq3_1)) rfl rfl (.slice aq3_2 r3.senders.length pq3_2)) rfl rfl (.slice aq3_3 r3.getters.length pq3_3)) (by decide) (.bool r3.closed)).tight, HV3.out, (((((A21.out.set (a := ⟨w2.heap.size, 0, none⟩) (by first | omega | (simp only [szA, szS, szD, World.heap_drewN] at * <;> omega)) (.int .i64 r3.room)).set (a := ⟨w2.heap.size, 1, none⟩) (by first | omega | (simp only [szA, szS, szD, World.heap_drewN] at * <;> omega)) (.slice aq3_1 r3.items.length pq3_1)).set (a := ⟨w2.heap.size, 2, none⟩) (by first | omega | (simp only [szA, szS, szD, World.heap_drewN] at * <;> omega)) (.slice aq3_2 r3.senders.length pq3_2)).set (a := ⟨w2.heap.size, 3, none⟩) (by first | omega | (simp only [szA, szS, szD, World.heap_drewN] at * <;> omega)) (.slice aq3_3 r3.getters.length pq3_3)).set (a := ⟨w2.heap.size, 4, none⟩) (by first | omega | (simp only [szA, szS, szD, World.heap_drewN] at * <;> omega)) (.bool r3.closed)).mono (by omega), by first | omega | (simp only [szA, szS, szD]; omega)⟩
          case measure => simp [intOf]; omega
    · obtain rfl : k = 0 := by omega
      go_wp2_with (fail)
      refine (pickD b (N + 3 + 18 * (5 - 0)) 6 w _ A20.out (by omega) (by decide)).mono ?_
      rintro e w21 ⟨x, rfl, hx0, hx1, hd⟩
      have A21 := Lib.hid (Dr.then A20.out hd)
      have Z21 := hd.size
      have N21 : w20.heap.size ≤ w21.heap.size := (by first | with_reducible exact Z21 | (simp only [szA, szS, szD] at Z21; omega))
      clear Z21
      have Xc_21 := Lib.hid (hd.at_ Xc_20.out (by first | omega | (simp only [szA, szS, szD, World.heap_drewN] at * <;> omega)))
      have Xres_21 := Lib.hid (hd.at_ Xres_20.out (by first | omega | (simp only [szA, szS, szD, World.heap_drewN] at * <;> omega)))
      have Oc_21 := Lib.hid (Oc_20.out.past hd.g hlt)
      clear hd
      obtain ⟨cc21_0, cc21_1, cc21_2, cc21_3, cc21_4, fc21_0, fc21_1, fc21_2, fc21_3, fc21_4⟩ := box5 Xc_21.out; have lc21 := heap_lt Xc_21.out
      obtain ⟨cres21_0, cres21_1, cres21_2, cres21_3, cres21_4, fres21_0, fres21_1, fres21_2, fres21_3, fres21_4⟩ := box5 Xres_21.out; have lres21 := heap_lt Xres_21.out
      have S21 : w.heap.size ≤ w21.heap.size := (by omega)
      by_cases h0 : x = 0
      · subst h0
        obtain ⟨r9, y9, ok9, hr9⟩ : ∃ r y b, closeC c = (r, y, b) := ⟨_, _, _, rfl⟩
        have HR9 := Lib.hid hr9; clear hr9
        go_wp2_with (fail)
        refine (sCloseChanO _ c r9 y9 ok9 _ (Oc_21.out.row) HN.out HR9.out).mono ?_
        rintro e w22 ⟨vm, vu, rfl, ho_m, hu, fr, hb⟩
        have A22 := Lib.hid (Dr.below A21.out hb)
        have Z22 := hb.size
        have N22 : w21.heap.size ≤ w22.heap.size := (by first | with_reducible exact Z22 | (simp only [szA, szS, szD] at Z22; omega))
        clear Z22
        have Xc_22 := Lib.hid (below_at hb Xc_21.out)
        have Xres_22 := Lib.hid (below_at hb Xres_21.out)
        have Oc_22 := Lib.hid (Oc_21.out.kept hb)
        have Om_22 := Lib.hid (ho_m.mono (lo' := w.heap.size) (by first | omega | (simp only [szA, szS, szD, World.heap_drewN] at * <;> omega)) (Nat.le_refl _)); obtain ⟨am1, pm1, am2, pm2, am3, pm3, rfl, hx_m⟩ := ho_m; clear hx_m
        clear hb
        obtain ⟨cc22_0, cc22_1, cc22_2, cc22_3, cc22_4, fc22_0, fc22_1, fc22_2, fc22_3, fc22_4⟩ := box5 Xc_22.out; have lc22 := heap_lt Xc_22.out
        obtain ⟨cres22_0, cres22_1, cres22_2, cres22_3, cres22_4, fres22_0, fres22_1, fres22_2, fres22_3, fres22_4⟩ := box5 Xres_22.out; have lres22 := heap_lt Xres_22.out
        have S22 : w.heap.size ≤ w22.heap.size := (by omega)
        clear cc21_0 cc21_1 cc21_2 cc21_3 cc21_4 fc21_0 fc21_1 fc21_2 fc21_3 fc21_4 cres21_0 cres21_1 cres21_2 cres21_3 cres21_4 fres21_0 fres21_1 fres21_2 fres21_3 fres21_4
        cases ok9
        · have nn : w2.heap.size ≠ w.heap.size := by omega
          have nn2 := nn.symm
          go_wp2_with (fail)
          refine bodyPost_ret (v := .agg #[.int .i64 c.room, .slice ac1 c.items.length pc1, .slice ac2 c.senders.length pc2, .slice ac3 c.getters.length pc3, .bool c.closed]) (by simp [results, Try.results66, go_sem, cres22_0, cres22_1, cres22_2, cres22_3, cres22_4, lres22, cc22_0, cc22_1, cc22_2, cc22_3, cc22_4, lc22, nn, nn2]) rfl ⟨_, c, rfl, ((((((Oc_22.out.setB (w.heap.size) 0 Xres_22.out (by decide) (.int .i64 c.room)).setB (w.heap.size) 1 (set_at (a := ⟨w.heap.size, 0, none⟩) Xres_22.out rfl rfl (.int .i64 c.room)) (by decide) (.slice ac1 c.items.length pc1)).setB (w.heap.size) 2 (set_at (a := ⟨w.heap.size, 1, none⟩) (set_at (a := ⟨w.heap.size, 0, none⟩) Xres_22.out rfl rfl (.int .i64 c.room)) rfl rfl (.slice ac1 c.items.length pc1)) (by decide) (.slice ac2 c.senders.length pc2)).setB (w.heap.size) 3 (set_at (a := ⟨w.heap.size, 2, none⟩) (set_at (a := ⟨w.heap.size, 1, none⟩) (set_at (a := ⟨w.heap.size, 0, none⟩) Xres_22.out rfl rfl (.int .i64 c.room)) rfl rfl (.slice ac1 c.items.length pc1)) rfl rfl (.slice ac2 c.senders.length pc2)) (by decide) (.slice ac3 c.getters.length pc3)).setB (w.heap.size) 4 (set_at (a := ⟨w.heap.size, 3, none⟩) (set_at (a := ⟨w.heap.size, 2, none⟩) (set_at (a := ⟨w.heap.size, 1, none⟩) (set_at (a := ⟨w.heap.size, 0, none⟩) Xres_22.out rfl rfl (.int .i64 c.room)) rfl rfl (.slice ac1 c.items.length pc1)) rfl rfl (.slice ac2 c.senders.length pc2)) rfl rfl (.slice ac3 c.getters.length pc3)) (by decide) (.bool c.closed)).alloc _).tight, VC.out.mono (by omega), ((((((A22.out.set (a := ⟨w.heap.size, 0, none⟩) (by first | omega | (simp only [szA, szS, szD, World.heap_drewN] at * <;> omega)) (.int .i64 c.room)).set (a := ⟨w.heap.size, 1, none⟩) (by first | omega | (simp only [szA, szS, szD, World.heap_drewN] at * <;> omega)) (.slice ac1 c.items.length pc1)).set (a := ⟨w.heap.size, 2, none⟩) (by first | omega | (simp only [szA, szS, szD, World.heap_drewN] at * <;> omega)) (.slice ac2 c.senders.length pc2)).set (a := ⟨w.heap.size, 3, none⟩) (by first | omega | (simp only [szA, szS, szD, World.heap_drewN] at * <;> omega)) (.slice ac3 c.getters.length pc3)).set (a := ⟨w.heap.size, 4, none⟩) (by first | omega | (simp only [szA, szS, szD, World.heap_drewN] at * <;> omega)) (.bool c.closed)).alloc _).mono (by omega)⟩
        · have nn : w2.heap.size ≠ w.heap.size := by omega
          have nn2 := nn.symm
          go_wp2_with (fail)
          refine bodyPost_ret (v := .agg #[.int .i64 r9.room, .slice am1 r9.items.length pm1, .slice am2 r9.senders.length pm2, .slice am3 r9.getters.length pm3, .bool r9.closed]) (by simp [results, Try.results66, go_sem, cres22_0, cres22_1, cres22_2, cres22_3, cres22_4, lres22, cc22_0, cc22_1, cc22_2, cc22_3, cc22_4, lc22, nn, nn2]) rfl ⟨_, r9, rfl, (((((((((((Om_22.out.setB (w2.heap.size) 0 Xc_22.out (by decide) (.int .i64 r9.room)).setB (w2.heap.size) 1 (set_at (a := ⟨w2.heap.size, 0, none⟩) Xc_22.out rfl rfl (.int .i64 r9.room)) (by decide) (.slice am1 r9.items.length pm1)).setB (w2.heap.size) 2 (set_at (a := ⟨w2.heap.size, 1, none⟩) (set_at (a := ⟨w2.heap.size, 0, none⟩) Xc_22.out rfl rfl (.int .i64 r9.room)) rfl rfl (.slice am1 r9.items.length pm1)) (by decide) (.slice am2 r9.senders.length pm2)).setB (w2.heap.size) 3 (set_at (a := ⟨w2.heap.size, 2, none⟩) (set_at (a := ⟨w2.heap.size, 1, none⟩) (set_at (a := ⟨w2.heap.size, 0, none⟩) Xc_22.out rfl rfl (.int .i64 r9.room)) rfl rfl (.slice am1 r9.items.length pm1)) rfl rfl (.slice am2 r9.senders.length pm2)) (by decide) (.slice am3 r9.getters.length pm3)).setB (w2.heap.size) 4 (set_at (a := ⟨w2.heap.size, 3, none⟩) (set_at (a := ⟨w2.heap.size, 2, none⟩) (set_at (a := ⟨w2.heap.size, 1, none⟩) (set_at (a := ⟨w2.heap.size, 0, none⟩) Xc_22.out rfl rfl (.int .i64 r9.room)) rfl rfl (.slice am1 r9.items.length pm1)) rfl rfl (.slice am2 r9.senders.length pm2)) rfl rfl (.slice am3 r9.getters.length pm3)) (by decide) (.bool r9.closed)).setB (w.heap.size) 0 (set_off (a := ⟨w2.heap.size, 4, none⟩) (set_off (a := ⟨w2.heap.size, 3, none⟩) (set_off (a := ⟨w2.heap.size, 2, none⟩) (set_off (a := ⟨w2.heap.size, 1, none⟩) (set_off (a := ⟨w2.heap.size, 0, none⟩) Xres_22.out (by first | omega | (simp only [szA, szS, szD, World.heap_drewN] at * <;> omega)) (.int .i64 r9.room)) (by first | omega | (simp only [szA, szS, szD, World.heap_drewN] at * <;> omega)) (.slice am1 r9.items.length pm1)) (by first | omega | (simp only [szA, szS, szD, World.heap_drewN] at * <;> omega)) (.slice am2 r9.senders.length pm2)) (by first | omega | (simp only [szA, szS, szD, World.heap_drewN] at * <;> omega)) (.slice am3 r9.getters.length pm3)) (by first | omega | (simp only [szA, szS, szD, World.heap_drewN] at * <;> omega)) (.bool r9.closed)) (by decide) (.int .i64 r9.room)).setB (w.heap.size) 1 (set_at (a := ⟨w.heap.size, 0, none⟩) (set_off (a := ⟨w2.heap.size, 4, none⟩) (set_off (a := ⟨w2.heap.size, 3, none⟩) (set_off (a := ⟨w2.heap.size, 2, none⟩) (set_off (a := ⟨w2.heap.size, 1, none⟩) (set_off (a := ⟨w2.heap.size, 0, none⟩) Xres_22.out (by first | omega | (simp only [szA, szS, szD, World.heap_drewN] at * <;> omega)) (.int .i64 r9.room)) (by first | omega | (simp only [szA, szS, szD, World.heap_drewN] at * <;> omega)) (.slice am1 r9.items.length pm1)) (by first | omega | (simp only [szA, szS, szD, World.heap_drewN] at * <;> omega)) (.slice am2 r9.senders.length pm2)) (by first | omega | (simp only [szA, szS, szD, World.heap_drewN] at * <;> omega)) (.slice am3 r9.getters.length pm3)) (by first | omega | (simp only [szA, szS, szD, World.heap_drewN] at * <;> omega)) (.bool r9.closed)) rfl rfl (.int .i64 r9.room)) (by decide) (.slice am1 r9.items.length pm1)).setB (w.heap.size) 2 (set_at (a := ⟨w.heap.size, 1, none⟩) (set_at (a := ⟨w.heap.size, 0, none⟩) (set_off (a := ⟨w2.heap.size, 4, none⟩) (set_off (a := ⟨w2.heap.size, 3, none⟩) (set_off (a := ⟨w2.heap.size, 2, none⟩) (set_off (a := ⟨w2.heap.size, 1, none⟩) (set_off (a := ⟨w2.heap.size, 0, none⟩) Xres_22.out (by first | omega | (simp only [szA, szS, szD, World.heap_drewN] at * <;> omega)) (.int .i64 r9.room)) (by first | omega | (simp only [szA, szS, szD, World.heap_drewN] at * <;> omega)) (.slice am1 r9.items.length pm1)) (by first | omega | (simp only [szA, szS, szD, World.heap_drewN] at * <;> omega)) (.slice am2 r9.senders.length pm2)) (by first | omega | (simp only [szA, szS, szD, World.heap_drewN] at * <;> omega)) (.slice am3 r9.getters.length pm3)) (by first | omega | (simp only [szA, szS, szD, World.heap_drewN] at * <;> omega)) (.bool r9.closed)) rfl rfl (.int .i64 r9.room)) rfl rfl (.slice am1 r9.items.length pm1)) (by decide) (.slice am2 r9.senders.length pm2)).setB (w.heap.size) 3 (set_at (a := ⟨w.heap.size, 2, none⟩) (set_at (a := ⟨w.heap.size, 1, none⟩) (set_at (a := ⟨w.heap.size, 0, none⟩) (set_off (a := ⟨w2.heap.size, 4, none⟩) (set_off (a := ⟨w2.heap.size, 3, none⟩) (set_off (a := ⟨w2.heap.size, 2, none⟩) (set_off (a := ⟨w2.heap.size, 1, none⟩) (set_off (a := ⟨w2.heap.size, 0, none⟩) Xres_22.out (by first | omega | (simp only [szA, szS, szD, World.heap_drewN] at * <;> omega)) (.int .i64 r9.room)) (by first | omega | (simp only [szA, szS, szD, World.heap_drewN] at * <;> omega)) (.slice am1 r9.items.length pm1)) (by first | omega | (simp only [szA, szS, szD, World.heap_drewN] at * <;> omega)) (.slice am2 r9.senders.length pm2)) (by first | omega | (simp only [szA, szS, szD, World.heap_drewN] at * <;> omega)) (.slice am3 r9.getters.length pm3)) (by first | omega | (simp only [szA, szS, szD, World.heap_drewN] at * <;> omega)) (.bool r9.closed)) rfl rfl (.int .i64 r9.room)) rfl rfl (.slice am1 r9.items.length pm1)) rfl rfl (.slice am2 r9.senders.length pm2)) (by decide) (.slice am3 r9.getters.length pm3)).setB (w.heap.size) 4 (set_at (a := ⟨w.heap.size, 3, none⟩) (set_at (a := ⟨w.heap.size, 2, none⟩) (set_at (a := ⟨w.heap.size, 1, none⟩) (set_at (a := ⟨w.heap.size, 0, none⟩) (set_off (a := ⟨w2.heap.size, 4, none⟩) (set_off (a := ⟨w2.heap.size, 3, none⟩) (set_off (a := ⟨w2.heap.size, 2, none⟩) (set_off (a := ⟨w2.heap.size, 1, none⟩) (set_off (a := ⟨w2.heap.size, 0, none⟩) Xres_22.out (by first | omega | (simp only [szA, szS, szD, World.heap_drewN] at * <;> omega)) (.int .i64 r9.room)) (by first | omega | (simp only [szA, szS, szD, World.heap_drewN] at * <;> omega)) (.slice am1 r9.items.length pm1)) (by first | omega | (simp only [szA, szS, szD, World.heap_drewN] at * <;> omega)) (.slice am2 r9.senders.length pm2)) (by first | omega | (simp only [szA, szS, szD, World.heap_drewN] at * <;> omega)) (.slice am3 r9.getters.length pm3)) (by first | omega | (simp only [szA, szS, szD, World.heap_drewN] at * <;> omega)) (.bool r9.closed)) rfl rfl (.int .i64 r9.room)) rfl rfl (.slice am1 r9.items.length pm1)) rfl rfl (.slice am2 r9.senders.length pm2)) rfl rfl (.slice am3 r9.getters.length pm3)) (by decide) (.bool r9.closed)).alloc _).tight, close_few HR9.out, (((((((((((A22.out.set (a := ⟨w2.heap.size, 0, none⟩) (by first | omega | (simp only [szA, szS, szD, World.heap_drewN] at * <;> omega)) (.int .i64 r9.room)).set (a := ⟨w2.heap.size, 1, none⟩) (by first | omega | (simp only [szA, szS, szD, World.heap_drewN] at * <;> omega)) (.slice am1 r9.items.length pm1)).set (a := ⟨w2.heap.size, 2, none⟩) (by first | omega | (simp only [szA, szS, szD, World.heap_drewN] at * <;> omega)) (.slice am2 r9.senders.length pm2)).set (a := ⟨w2.heap.size, 3, none⟩) (by first | omega | (simp only [szA, szS, szD, World.heap_drewN] at * <;> omega)) (.slice am3 r9.getters.length pm3)).set (a := ⟨w2.heap.size, 4, none⟩) (by first | omega | (simp only [szA, szS, szD, World.heap_drewN] at * <;> omega)) (.bool r9.closed)).set (a := ⟨w.heap.size, 0, none⟩) (by first | omega | (simp only [szA, szS, szD, World.heap_drewN] at * <;> omega)) (.int .i64 r9.room)).set (a := ⟨w.heap.size, 1, none⟩) (by first | omega | (simp only [szA, szS, szD, World.heap_drewN] at * <;> omega)) (.slice am1 r9.items.length pm1)).set (a := ⟨w.heap.size, 2, none⟩) (by first | omega | (simp only [szA, szS, szD, World.heap_drewN] at * <;> omega)) (.slice am2 r9.senders.length pm2)).set (a := ⟨w.heap.size, 3, none⟩) (by first | omega | (simp only [szA, szS, szD, World.heap_drewN] at * <;> omega)) (.slice am3 r9.getters.length pm3)).set (a := ⟨w.heap.size, 4, none⟩) (by first | omega | (simp only [szA, szS, szD, World.heap_drewN] at * <;> omega)) (.bool r9.closed)).alloc _).mono (by omega)⟩
      · have e0 : (x == 0) = false := beq_false_of_ne h0
        have e1 := decide_eq_false h0
        have nn : w2.heap.size ≠ w.heap.size := by omega
        have nn2 := nn.symm
        go_wp2_with (fail)
        refine bodyPost_ret (v := .agg #[.int .i64 c.room, .slice ac1 c.items.length pc1, .slice ac2 c.senders.length pc2, .slice ac3 c.getters.length pc3, .bool c.closed]) (by simp [results, Try.results66, go_sem, cres21_0, cres21_1, cres21_2, cres21_3, cres21_4, lres21, cc21_0, cc21_1, cc21_2, cc21_3, cc21_4, lc21, nn, nn2]) rfl ⟨_, c, rfl, (((((Oc_21.out.setB (w.heap.size) 0 Xres_21.out (by decide) (.int .i64 c.room)).setB (w.heap.size) 1 (set_at (a := ⟨w.heap.size, 0, none⟩) Xres_21.out rfl rfl (.int .i64 c.room)) (by decide) (.slice ac1 c.items.length pc1)).setB (w.heap.size) 2 (set_at (a := ⟨w.heap.size, 1, none⟩) (set_at (a := ⟨w.heap.size, 0, none⟩) Xres_21.out rfl rfl (.int .i64 c.room)) rfl rfl (.slice ac1 c.items.length pc1)) (by decide) (.slice ac2 c.senders.length pc2)).setB (w.heap.size) 3 (set_at (a := ⟨w.heap.size, 2, none⟩) (set_at (a := ⟨w.heap.size, 1, none⟩) (set_at (a := ⟨w.heap.size, 0, none⟩) Xres_21.out rfl rfl (.int .i64 c.room)) rfl rfl (.slice ac1 c.items.length pc1)) rfl rfl (.slice ac2 c.senders.length pc2)) (by decide) (.slice ac3 c.getters.length pc3)).setB (w.heap.size) 4 (set_at (a := ⟨w.heap.size, 3, none⟩) (set_at (a := ⟨w.heap.size, 2, none⟩) (set_at (a := ⟨w.heap.size, 1, none⟩) (set_at (a := ⟨w.heap.size, 0, none⟩) Xres_21.out rfl rfl (.int .i64 c.room)) rfl rfl (.slice ac1 c.items.length pc1)) rfl rfl (.slice ac2 c.senders.length pc2)) rfl rfl (.slice ac3 c.getters.length pc3)) (by decide) (.bool c.closed)).tight, VC.out.mono (by omega), (((((A21.out.set (a := ⟨w.heap.size, 0, none⟩) (by first | omega | (simp only [szA, szS, szD, World.heap_drewN] at * <;> omega)) (.int .i64 c.room)).set (a := ⟨w.heap.size, 1, none⟩) (by first | omega | (simp only [szA, szS, szD, World.heap_drewN] at * <;> omega)) (.slice ac1 c.items.length pc1)).set (a := ⟨w.heap.size, 2, none⟩) (by first | omega | (simp only [szA, szS, szD, World.heap_drewN] at * <;> omega)) (.slice ac2 c.senders.length pc2)).set (a := ⟨w.heap.size, 3, none⟩) (by first | omega | (simp only [szA, szS, szD, World.heap_drewN] at * <;> omega)) (.slice ac3 c.getters.length pc3)).set (a := ⟨w.heap.size, 4, none⟩) (by first | omega | (simp only [szA, szS, szD, World.heap_drewN] at * <;> omega)) (.bool c.closed)).mono (by omega)⟩
end Go.Proofs.Ytpgiinklbnlloaa
