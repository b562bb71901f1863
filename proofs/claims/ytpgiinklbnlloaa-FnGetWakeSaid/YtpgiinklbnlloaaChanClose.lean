/- CloseChan of both (made by gen_chan.py). -/
import Derived.Test.YtpgiinklbnlloaaChanSend
import Derived.Test.YtpgiinklbnlloaaChanCopy
import Derived.Test.YtpgiinklbnlloaaChanValidS
namespace Go.Proofs.Ytpgiinklbnlloaa
open Go.RowKit
set_option linter.unusedSimpArgs false
set_option linter.unusedVariables false
def closeOk (c : ChanD) : Bool := chanB c && !c.closed && decide (c.senders.length = 0)
def closeC (c : ChanD) : ChanD × List Int × Bool := if closeOk c = true then (⟨c.room, c.items, c.senders, [], true⟩, c.getters, true) else (ChanD.zero, [], false)
theorem close_no {c r : ChanD} {y : List Int} {b : Bool} (h : closeC c = (r, y, b)) (hn : closeOk c = false) : r = ChanD.zero ∧ y = [] ∧ b = false := by
  unfold closeC at h; rw [if_neg (by rw [hn]; decide)] at h; injection h with h1 h; injection h with h2 h3; exact ⟨h1.symm, h2.symm, h3.symm⟩
theorem close_yes {c r : ChanD} {y : List Int} {b : Bool} (h : closeC c = (r, y, b)) (hn : closeOk c = true) : r = ⟨c.room, c.items, c.senders, [], true⟩ ∧ y = c.getters ∧ b = true := by
  unfold closeC at h; rw [if_pos hn] at h; injection h with h1 h; injection h with h2 h3; exact ⟨h1.symm, h2.symm, h3.symm⟩
theorem close_small {c r : ChanD} {y : List Int} {b : Bool} (h : closeC c = (r, y, b)) : r.items.length + r.senders.length + r.getters.length ≤ 10 ∧ y.length ≤ 6 := by
  cases hn : closeOk c
  · obtain ⟨rfl, rfl, _⟩ := close_no h hn; simp [ChanD.zero]
  · obtain ⟨rfl, rfl, _⟩ := close_yes h hn
    simp only [closeOk, Bool.and_eq_true] at hn
    obtain ⟨h1, h2⟩ := (chanB_true.1 hn.1.1).small
    simp only [List.length_nil]; omega
theorem Free.make5 {u : Value} {x0 v1 v2 v3 x4 : Value} {lo lo' : Nat} {w : World} {xs : List Int} {qs : List (Int × Int)} (hu : Own lo 3 1 encI w u xs) (h1 : Apart v1 u) (h2 : Own lo' 58 2 encP w v2 qs) (h3 : Apart v3 u) (e0 : ∀ g, x0.ownBlock ≠ some g) (e4 : ∀ g, x4.ownBlock ≠ some g) : Free u (.agg #[x0, v1, v2, v3, x4]) := by
  intro g e hm
  simp only [aggBlocks, List.map_cons, List.map_nil, List.mem_cons, List.not_mem_nil, or_false] at hm
  rcases hm with hm | hm | hm | hm | hm
  · exact e0 g hm.symm
  · exact h1 g hm.symm e
  · exact Own.apart_types h2 hu (by decide) g hm.symm e
  · exact h3 g hm.symm e
  · exact e4 g hm.symm
theorem apart_nil {u : Value} : Apart (.slice none 0 0) u := fun g e _ => by cases e
set_option maxHeartbeats 8000000 in
theorem CloseChanO (v : Value) (c : ChanD) (r : ChanD) (y : List Int) (b1 : Bool) (w : World) (h : ChanRow w v c) (hn : c.items.length + c.senders.length + c.getters.length ≤ 1048576) (hr : closeC c = (r, y, b1)) :
    Calls Try.prog 41 #[v] w fun e w' => ∃ v' u', e = .returned (.tuple #[v', u', .bool b1]) ∧ ChanOwn w.heap.size w'.heap.size w' v' r ∧ LOwn w.heap.size w'.heap.size w' u' y ∧ Free u' v' ∧ Below w.heap.size w w' := by
  have HP := Lib.hid h
  obtain ⟨aP1, pP1, aP2, pP2, aP3, pP3, rfl, hr1, hr2, hr3⟩ := h
  have HI1 := Lib.hid hr1; have HI2 := Lib.hid hr2; have HI3 := Lib.hid hr3; clear hr1 hr2 hr3
  have HR := Lib.hid hr; clear hr
  go_enter Try.func41, Try.ntmps41
  go_wp2_with (fail)
  refine (ChanValid_calls _ c _ (ChanRow.below HP.out (Below.alloc (Below.alloc (Below.refl _ _) (by first | omega | (simp only [szA, szS, szD, World.heap_drewN] at * <;> omega)) _) (by first | omega | (simp only [szA, szS, szD, World.heap_drewN] at * <;> omega)) _)) hn).mono ?_
  rintro e w1 ⟨rfl, hb⟩
  have B1 := Lib.hid (Below.trans (Below.alloc (Below.alloc (Below.refl _ _) (by first | omega | (simp only [szA, szS, szD, World.heap_drewN] at * <;> omega)) _) (by first | omega | (simp only [szA, szS, szD, World.heap_drewN] at * <;> omega)) _) (hb.mono (by first | omega | (simp only [szA, szS, szD, World.heap_drewN] at * <;> omega))) : Below w.heap.size w w1)
  have Z1 := hb.size
  have N1 : w.heap.size + 2 ≤ w1.heap.size := (by first | with_reducible exact Z1 | (simp only [szA, szS, szD] at Z1; omega))
  clear Z1
  have Xp_1 : Hid (w1.heap[w.heap.size]? = some (.cells #[.int .i64 c.room, .slice aP1 c.items.length pP1, .slice aP2 c.senders.length pP2, .slice aP3 c.getters.length pP3, .bool c.closed] 25 (0, 0))) := below_at hb (heap_up (heap_at' (n := w.heap.size) (by first | omega | (simp only [szA, szS, szD, World.heap_drewN] at * <;> omega))))
  have Xres_1 : Hid (w1.heap[w.heap.size + 1]? = some (.cells #[.int .i64 0, .slice none 0 0, .slice none 0 0, .slice none 0 0, .bool false] 25 (0, 0))) := below_at hb (heap_at' (n := w.heap.size + 1) (by first | omega | (simp only [szA, szS, szD, World.heap_drewN] at * <;> omega)))
  clear hb
  obtain ⟨cp1_0, cp1_1, cp1_2, cp1_3, cp1_4, fp1_0, fp1_1, fp1_2, fp1_3, fp1_4⟩ := box5 Xp_1.out; have lp1 := heap_lt Xp_1.out
  obtain ⟨cres1_0, cres1_1, cres1_2, cres1_3, cres1_4, fres1_0, fres1_1, fres1_2, fres1_3, fres1_4⟩ := box5 Xres_1.out; have lres1 := heap_lt Xres_1.out
  have S1 : w.heap.size ≤ w1.heap.size := (by omega)
  cases hv : chanB c
  · have HV := Lib.hid hv; clear hv
    obtain ⟨rfl, rfl, rfl⟩ := close_no HR.out (by simp [closeOk, HV.out])
    go_wp2_with (fail)
    refine bodyPost_ret (v := .tuple #[.agg #[.int .i64 0, .slice none 0 0, .slice none 0 0, .slice none 0 0, .bool false], .slice none 0 0, .bool false]) (by simp [results, Try.results41, go_sem, cres1_0, cres1_1, cres1_2, cres1_3, cres1_4, lres1]) rfl ⟨_, _, rfl, ChanOwn.nils, LOwn.none, (fun g e => by cases e), (sets5_below B1.out (by first | omega | (simp only [szA, szS, szD, World.heap_drewN] at * <;> omega)) (.int .i64 0) (.slice none 0 0) (.slice none 0 0) (.slice none 0 0) (.bool false))⟩
  · have HV := Lib.hid hv; obtain ⟨m1, m2⟩ := (chanB_true.1 hv).small; clear hv
    cases hcl : c.closed
    · rw [hcl] at Xp_1 HP cp1_4
      have HCL := Lib.hid hcl; clear hcl
      by_cases hq : 0 < c.senders.length
      · have d1 := len_ne hq
        have HQ := Lib.hid (show ¬ c.senders.length = 0 by omega)
        obtain ⟨rfl, rfl, rfl⟩ := close_no HR.out (by simp [closeOk, HQ.out])
        go_wp2_with (fail)
        refine bodyPost_ret (v := .tuple #[.agg #[.int .i64 0, .slice none 0 0, .slice none 0 0, .slice none 0 0, .bool false], .slice none 0 0, .bool false]) (by simp [results, Try.results41, go_sem, cres1_0, cres1_1, cres1_2, cres1_3, cres1_4, lres1]) rfl ⟨_, _, rfl, ChanOwn.nils, LOwn.none, (fun g e => by cases e), (sets5_below B1.out (by first | omega | (simp only [szA, szS, szD, World.heap_drewN] at * <;> omega)) (.int .i64 0) (.slice none 0 0) (.slice none 0 0) (.slice none 0 0) (.bool false))⟩
      · have d1 := len_eq hq
        have HO := Lib.hid (show closeOk c = true by rw [closeOk, HV.out, HCL.out, decide_eq_true (show c.senders.length = 0 by omega)]; rfl)
        obtain ⟨e1, e2, e3⟩ := close_yes HR.out HO.out
        subst e1 e2 e3
        go_wp2_with (fail)
        refine (chanClone_calls _ c _ (ChanRow.below HP.out B1.out) hn).mono ?_
        rintro e w2 ⟨vg, rfl, ho_g, hb⟩
        have B2 := Lib.hid (Below.trans B1.out (hb.mono (by first | omega | (simp only [szA, szS, szD, World.heap_drewN] at * <;> omega))) : Below w.heap.size w w2)
        have Z2 := hb.size
        have N2 : w1.heap.size ≤ w2.heap.size := (by first | with_reducible exact Z2 | (simp only [szA, szS, szD] at Z2; omega))
        clear Z2
        have Xp_2 := Lib.hid (below_at hb Xp_1.out)
        have Xres_2 := Lib.hid (below_at hb Xres_1.out)
        obtain ⟨ag1, pg1, ag2, pg2, ag3, pg3, rfl, ho1, hx1, ho2, hx2, ho3, hx3, ap13⟩ := ho_g
        have Og1_2 := Lib.hid (Own.mono (base' := w.heap.size) ho1 (by first | omega | (simp only [szA, szS, szD, World.heap_drewN] at * <;> omega))); clear ho1 hx1
        have Og2_2 := Lib.hid (Own.mono (base' := w.heap.size) ho2 (by first | omega | (simp only [szA, szS, szD, World.heap_drewN] at * <;> omega))); clear ho2 hx2
        have Og3_2 := Lib.hid (Own.mono (base' := w.heap.size) ho3 (by first | omega | (simp only [szA, szS, szD, World.heap_drewN] at * <;> omega))); clear ho3 hx3
        have APg13 := Lib.hid ap13; clear ap13
        clear hb
        obtain ⟨cp2_0, cp2_1, cp2_2, cp2_3, cp2_4, fp2_0, fp2_1, fp2_2, fp2_3, fp2_4⟩ := box5 Xp_2.out; have lp2 := heap_lt Xp_2.out
        obtain ⟨cres2_0, cres2_1, cres2_2, cres2_3, cres2_4, fres2_0, fres2_1, fres2_2, fres2_3, fres2_4⟩ := box5 Xres_2.out; have lres2 := heap_lt Xres_2.out
        have S2 : w.heap.size ≤ w2.heap.size := (by omega)
        clear cp1_0 cp1_1 cp1_2 cp1_3 cp1_4 fp1_0 fp1_1 fp1_2 fp1_3 fp1_4 cres1_0 cres1_1 cres1_2 cres1_3 cres1_4 fres1_0 fres1_1 fres1_2 fres1_3 fres1_4
        obtain ⟨w3, hw⟩ : ∃ x : World, x = (((((w2.setCell ⟨w.heap.size, 0, none⟩ (.int .i64 c.room)).setCell ⟨w.heap.size, 1, none⟩ (.slice ag1 c.items.length pg1)).setCell ⟨w.heap.size, 2, none⟩ (.slice ag2 c.senders.length pg2)).setCell ⟨w.heap.size, 3, none⟩ (.slice ag3 c.getters.length pg3)).setCell ⟨w.heap.size, 4, none⟩ (.bool c.closed)) := ⟨_, rfl⟩
        have B3 := Lib.hid (show Below w.heap.size w w3 by rw [hw]; exact (sets5_below B2.out (by first | omega | (simp only [szA, szS, szD, World.heap_drewN] at * <;> omega)) (.int .i64 c.room) (.slice ag1 c.items.length pg1) (.slice ag2 c.senders.length pg2) (.slice ag3 c.getters.length pg3) (.bool c.closed)))
        have N3 : w2.heap.size ≤ w3.heap.size := (by rw [hw]; simp only [szS, szA]; omega)
        have Og1_3 := Lib.hid (show Own w.heap.size 3 1 encI w3 (.slice ag1 c.items.length pg1) c.items by rw [hw]; exact (sets5_own Og1_2.out Xp_2.out (by decide) (.int .i64 c.room) (.slice ag1 c.items.length pg1) (.slice ag2 c.senders.length pg2) (.slice ag3 c.getters.length pg3) (.bool c.closed)))
        have Og2_3 := Lib.hid (show Own w.heap.size 58 2 encP w3 (.slice ag2 c.senders.length pg2) c.senders by rw [hw]; exact (sets5_own Og2_2.out Xp_2.out (by decide) (.int .i64 c.room) (.slice ag1 c.items.length pg1) (.slice ag2 c.senders.length pg2) (.slice ag3 c.getters.length pg3) (.bool c.closed)))
        have Og3_3 := Lib.hid (show Own w.heap.size 3 1 encI w3 (.slice ag3 c.getters.length pg3) c.getters by rw [hw]; exact (sets5_own Og3_2.out Xp_2.out (by decide) (.int .i64 c.room) (.slice ag1 c.items.length pg1) (.slice ag2 c.senders.length pg2) (.slice ag3 c.getters.length pg3) (.bool c.closed)))
        have Xp_3 := Lib.hid (show w3.heap[w.heap.size]? = some (.cells #[.int .i64 c.room, .slice ag1 c.items.length pg1, .slice ag2 c.senders.length pg2, .slice ag3 c.getters.length pg3, .bool c.closed] 25 (0, 0)) by rw [hw]; exact (sets5_at Xp_2.out (.int .i64 c.room) (.slice ag1 c.items.length pg1) (.slice ag2 c.senders.length pg2) (.slice ag3 c.getters.length pg3) (.bool c.closed)))
        have Xres_3 := Lib.hid (show w3.heap[w.heap.size + 1]? = some (.cells #[.int .i64 0, .slice none 0 0, .slice none 0 0, .slice none 0 0, .bool false] 25 (0, 0)) by rw [hw]; exact (sets5_off Xres_2.out (by first | omega | (simp only [szA, szS, szD, World.heap_drewN] at * <;> omega)) (.int .i64 c.room) (.slice ag1 c.items.length pg1) (.slice ag2 c.senders.length pg2) (.slice ag3 c.getters.length pg3) (.bool c.closed)))
        have Q3 := Lib.hid (show w3.heap.size = w2.heap.size by rw [hw]; simp only [szS, szA])
        have HW3 := Lib.hid hw; clear hw
        obtain ⟨cp3_0, cp3_1, cp3_2, cp3_3, cp3_4, fp3_0, fp3_1, fp3_2, fp3_3, fp3_4⟩ := box5 Xp_3.out; have lp3 := heap_lt Xp_3.out
        obtain ⟨cres3_0, cres3_1, cres3_2, cres3_3, cres3_4, fres3_0, fres3_1, fres3_2, fres3_3, fres3_4⟩ := box5 Xres_3.out; have lres3 := heap_lt Xres_3.out
        have S3 : w.heap.size ≤ w3.heap.size := (by omega)
        go_wp2_with (rw [← HW3.out])
        refine bodyPost_ret (v := .tuple #[.agg #[.int .i64 c.room, .slice ag1 c.items.length pg1, .slice ag2 c.senders.length pg2, .slice none 0 0, .bool true], .slice ag3 c.getters.length pg3, .bool true]) (by simp [results, Try.results41, go_sem, cres3_0, cres3_1, cres3_2, cres3_3, cres3_4, lres3]) rfl ⟨_, _, rfl, ChanOwn.make (sets5_own ((Og1_3.out.setB (w.heap.size) 3 Xp_3.out (by decide) (.slice none 0 0)).setB (w.heap.size) 4 (set_at (a := ⟨w.heap.size, 3, none⟩) Xp_3.out rfl rfl (.slice none 0 0)) (by decide) (.bool true)) (set_off (a := ⟨w.heap.size, 4, none⟩) (set_off (a := ⟨w.heap.size, 3, none⟩) Xres_3.out (by first | omega | (simp only [szA, szS, szD, World.heap_drewN] at * <;> omega)) (.slice none 0 0)) (by first | omega | (simp only [szA, szS, szD, World.heap_drewN] at * <;> omega)) (.bool true)) (by decide) (.int .i64 c.room) (.slice ag1 c.items.length pg1) (.slice ag2 c.senders.length pg2) (.slice none 0 0) (.bool true)) (sets5_own ((Og2_3.out.setB (w.heap.size) 3 Xp_3.out (by decide) (.slice none 0 0)).setB (w.heap.size) 4 (set_at (a := ⟨w.heap.size, 3, none⟩) Xp_3.out rfl rfl (.slice none 0 0)) (by decide) (.bool true)) (set_off (a := ⟨w.heap.size, 4, none⟩) (set_off (a := ⟨w.heap.size, 3, none⟩) Xres_3.out (by first | omega | (simp only [szA, szS, szD, World.heap_drewN] at * <;> omega)) (.slice none 0 0)) (by first | omega | (simp only [szA, szS, szD, World.heap_drewN] at * <;> omega)) (.bool true)) (by decide) (.int .i64 c.room) (.slice ag1 c.items.length pg1) (.slice ag2 c.senders.length pg2) (.slice none 0 0) (.bool true)) (Own.nil _ _ _ _ _) (Nat.le_refl _) apart_nil.symm, LOwn.of (sets5_own ((Og3_3.out.setB (w.heap.size) 3 Xp_3.out (by decide) (.slice none 0 0)).setB (w.heap.size) 4 (set_at (a := ⟨w.heap.size, 3, none⟩) Xp_3.out rfl rfl (.slice none 0 0)) (by decide) (.bool true)) (set_off (a := ⟨w.heap.size, 4, none⟩) (set_off (a := ⟨w.heap.size, 3, none⟩) Xres_3.out (by first | omega | (simp only [szA, szS, szD, World.heap_drewN] at * <;> omega)) (.slice none 0 0)) (by first | omega | (simp only [szA, szS, szD, World.heap_drewN] at * <;> omega)) (.bool true)) (by decide) (.int .i64 c.room) (.slice ag1 c.items.length pg1) (.slice ag2 c.senders.length pg2) (.slice none 0 0) (.bool true)) (Nat.le_refl _), Free.make5 (sets5_own ((Og3_3.out.setB (w.heap.size) 3 Xp_3.out (by decide) (.slice none 0 0)).setB (w.heap.size) 4 (set_at (a := ⟨w.heap.size, 3, none⟩) Xp_3.out rfl rfl (.slice none 0 0)) (by decide) (.bool true)) (set_off (a := ⟨w.heap.size, 4, none⟩) (set_off (a := ⟨w.heap.size, 3, none⟩) Xres_3.out (by first | omega | (simp only [szA, szS, szD, World.heap_drewN] at * <;> omega)) (.slice none 0 0)) (by first | omega | (simp only [szA, szS, szD, World.heap_drewN] at * <;> omega)) (.bool true)) (by decide) (.int .i64 c.room) (.slice ag1 c.items.length pg1) (.slice ag2 c.senders.length pg2) (.slice none 0 0) (.bool true)) APg13.out (sets5_own ((Og2_3.out.setB (w.heap.size) 3 Xp_3.out (by decide) (.slice none 0 0)).setB (w.heap.size) 4 (set_at (a := ⟨w.heap.size, 3, none⟩) Xp_3.out rfl rfl (.slice none 0 0)) (by decide) (.bool true)) (set_off (a := ⟨w.heap.size, 4, none⟩) (set_off (a := ⟨w.heap.size, 3, none⟩) Xres_3.out (by first | omega | (simp only [szA, szS, szD, World.heap_drewN] at * <;> omega)) (.slice none 0 0)) (by first | omega | (simp only [szA, szS, szD, World.heap_drewN] at * <;> omega)) (.bool true)) (by decide) (.int .i64 c.room) (.slice ag1 c.items.length pg1) (.slice ag2 c.senders.length pg2) (.slice none 0 0) (.bool true)) apart_nil (fun g e => by cases e) (fun g e => by cases e), (sets5_below (below_setAt (below_setAt B3.out (w.heap.size) 3 (by first | omega | (simp only [szA, szS, szD, World.heap_drewN] at * <;> omega)) (.slice none 0 0)) (w.heap.size) 4 (by first | omega | (simp only [szA, szS, szD, World.heap_drewN] at * <;> omega)) (.bool true)) (by first | omega | (simp only [szA, szS, szD, World.heap_drewN] at * <;> omega)) (.int .i64 c.room) (.slice ag1 c.items.length pg1) (.slice ag2 c.senders.length pg2) (.slice none 0 0) (.bool true))⟩
    · rw [hcl] at Xp_1 HP cp1_4
      have HCL := Lib.hid hcl; clear hcl
      obtain ⟨rfl, rfl, rfl⟩ := close_no HR.out (by simp [closeOk, HCL.out])
      go_wp2_with (fail)
      refine bodyPost_ret (v := .tuple #[.agg #[.int .i64 0, .slice none 0 0, .slice none 0 0, .slice none 0 0, .bool false], .slice none 0 0, .bool false]) (by simp [results, Try.results41, go_sem, cres1_0, cres1_1, cres1_2, cres1_3, cres1_4, lres1]) rfl ⟨_, _, rfl, ChanOwn.nils, LOwn.none, (fun g e => by cases e), (sets5_below B1.out (by first | omega | (simp only [szA, szS, szD, World.heap_drewN] at * <;> omega)) (.int .i64 0) (.slice none 0 0) (.slice none 0 0) (.slice none 0 0) (.bool false))⟩
set_option maxHeartbeats 8000000 in
theorem sCloseChanO (v : Value) (c : ChanD) (r : ChanD) (y : List Int) (b1 : Bool) (w : World) (h : ChanRow w v c) (hn : c.items.length + c.senders.length + c.getters.length ≤ 1048576) (hr : closeC c = (r, y, b1)) :
    Calls Try.prog 40 #[v] w fun e w' => ∃ v' u', e = .returned (.tuple #[v', u', .bool b1]) ∧ ChanOwn w.heap.size w'.heap.size w' v' r ∧ LOwn w.heap.size w'.heap.size w' u' y ∧ Free u' v' ∧ Below w.heap.size w w' := by
  have HP := Lib.hid h
  obtain ⟨aP1, pP1, aP2, pP2, aP3, pP3, rfl, hr1, hr2, hr3⟩ := h
  have HI1 := Lib.hid hr1; have HI2 := Lib.hid hr2; have HI3 := Lib.hid hr3; clear hr1 hr2 hr3
  have HR := Lib.hid hr; clear hr
  go_enter Try.func40, Try.ntmps40
  go_wp2_with (fail)
  refine (sChanValid_calls _ c _ (ChanRow.below HP.out (Below.alloc (Below.alloc (Below.refl _ _) (by first | omega | (simp only [szA, szS, szD, World.heap_drewN] at * <;> omega)) _) (by first | omega | (simp only [szA, szS, szD, World.heap_drewN] at * <;> omega)) _)) hn).mono ?_
  rintro e w1 ⟨rfl, hb⟩
  have B1 := Lib.hid (Below.trans (Below.alloc (Below.alloc (Below.refl _ _) (by first | omega | (simp only [szA, szS, szD, World.heap_drewN] at * <;> omega)) _) (by first | omega | (simp only [szA, szS, szD, World.heap_drewN] at * <;> omega)) _) (hb.mono (by first | omega | (simp only [szA, szS, szD, World.heap_drewN] at * <;> omega))) : Below w.heap.size w w1)
  have Z1 := hb.size
  have N1 : w.heap.size + 2 ≤ w1.heap.size := (by first | with_reducible exact Z1 | (simp only [szA, szS, szD] at Z1; omega))
  clear Z1
  have Xp_1 : Hid (w1.heap[w.heap.size]? = some (.cells #[.int .i64 c.room, .slice aP1 c.items.length pP1, .slice aP2 c.senders.length pP2, .slice aP3 c.getters.length pP3, .bool c.closed] 25 (0, 0))) := below_at hb (heap_up (heap_at' (n := w.heap.size) (by first | omega | (simp only [szA, szS, szD, World.heap_drewN] at * <;> omega))))
  have Xres_1 : Hid (w1.heap[w.heap.size + 1]? = some (.cells #[.int .i64 0, .slice none 0 0, .slice none 0 0, .slice none 0 0, .bool false] 25 (0, 0))) := below_at hb (heap_at' (n := w.heap.size + 1) (by first | omega | (simp only [szA, szS, szD, World.heap_drewN] at * <;> omega)))
  clear hb
  obtain ⟨cp1_0, cp1_1, cp1_2, cp1_3, cp1_4, fp1_0, fp1_1, fp1_2, fp1_3, fp1_4⟩ := box5 Xp_1.out; have lp1 := heap_lt Xp_1.out
  obtain ⟨cres1_0, cres1_1, cres1_2, cres1_3, cres1_4, fres1_0, fres1_1, fres1_2, fres1_3, fres1_4⟩ := box5 Xres_1.out; have lres1 := heap_lt Xres_1.out
  have S1 : w.heap.size ≤ w1.heap.size := (by omega)
  cases hv : chanB c
  · have HV := Lib.hid hv; clear hv
    obtain ⟨rfl, rfl, rfl⟩ := close_no HR.out (by simp [closeOk, HV.out])
    go_wp2_with (fail)
    refine bodyPost_ret (v := .tuple #[.agg #[.int .i64 0, .slice none 0 0, .slice none 0 0, .slice none 0 0, .bool false], .slice (some ⟨w1.heap.size, 0, none⟩) 0 0, .bool false]) (by simp [results, Try.results40, go_sem, cres1_0, cres1_1, cres1_2, cres1_3, cres1_4, lres1]) rfl ⟨_, _, rfl, ChanOwn.nils, LOwn.of (Own.empty (heap_at' (n := w1.heap.size) (by first | omega | (simp only [szA, szS, szD, World.heap_drewN] at * <;> omega))) (by omega)) (Nat.le_refl _), (fun g e hm => by simp [aggBlocks, Value.ownBlock] at hm), (Below.alloc (sets5_below B1.out (by first | omega | (simp only [szA, szS, szD, World.heap_drewN] at * <;> omega)) (.int .i64 0) (.slice none 0 0) (.slice none 0 0) (.slice none 0 0) (.bool false)) (by first | omega | (simp only [szA, szS, szD, World.heap_drewN] at * <;> omega)) _)⟩
  · have HV := Lib.hid hv; obtain ⟨m1, m2⟩ := (chanB_true.1 hv).small; clear hv
    cases hcl : c.closed
    · rw [hcl] at Xp_1 HP cp1_4
      have HCL := Lib.hid hcl; clear hcl
      by_cases hq : 0 < c.senders.length
      · have d1 := len_ne hq
        have HQ := Lib.hid (show ¬ c.senders.length = 0 by omega)
        obtain ⟨rfl, rfl, rfl⟩ := close_no HR.out (by simp [closeOk, HQ.out])
        go_wp2_with (fail)
        refine bodyPost_ret (v := .tuple #[.agg #[.int .i64 0, .slice none 0 0, .slice none 0 0, .slice none 0 0, .bool false], .slice (some ⟨w1.heap.size, 0, none⟩) 0 0, .bool false]) (by simp [results, Try.results40, go_sem, cres1_0, cres1_1, cres1_2, cres1_3, cres1_4, lres1]) rfl ⟨_, _, rfl, ChanOwn.nils, LOwn.of (Own.empty (heap_at' (n := w1.heap.size) (by first | omega | (simp only [szA, szS, szD, World.heap_drewN] at * <;> omega))) (by omega)) (Nat.le_refl _), (fun g e hm => by simp [aggBlocks, Value.ownBlock] at hm), (Below.alloc (sets5_below B1.out (by first | omega | (simp only [szA, szS, szD, World.heap_drewN] at * <;> omega)) (.int .i64 0) (.slice none 0 0) (.slice none 0 0) (.slice none 0 0) (.bool false)) (by first | omega | (simp only [szA, szS, szD, World.heap_drewN] at * <;> omega)) _)⟩
      · have d1 := len_eq hq
        have HO := Lib.hid (show closeOk c = true by rw [closeOk, HV.out, HCL.out, decide_eq_true (show c.senders.length = 0 by omega)]; rfl)
        obtain ⟨e1, e2, e3⟩ := close_yes HR.out HO.out
        subst e1 e2 e3
        go_wp2_with (fail)
        refine (l5Copy_calls _ c _ (ChanRow.below HP.out B1.out) hn).mono ?_
        rintro e w2 ⟨vg, rfl, ho_g, hb⟩
        have B2 := Lib.hid (Below.trans B1.out (hb.mono (by first | omega | (simp only [szA, szS, szD, World.heap_drewN] at * <;> omega))) : Below w.heap.size w w2)
        have Z2 := hb.size
        have N2 : w1.heap.size ≤ w2.heap.size := (by first | with_reducible exact Z2 | (simp only [szA, szS, szD] at Z2; omega))
        clear Z2
        have Xp_2 := Lib.hid (below_at hb Xp_1.out)
        have Xres_2 := Lib.hid (below_at hb Xres_1.out)
        obtain ⟨ag1, pg1, ag2, pg2, ag3, pg3, rfl, ho1, hx1, ho2, hx2, ho3, hx3, ap13⟩ := ho_g
        have Og1_2 := Lib.hid (Own.mono (base' := w.heap.size) ho1 (by first | omega | (simp only [szA, szS, szD, World.heap_drewN] at * <;> omega))); clear ho1 hx1
        have Og2_2 := Lib.hid (Own.mono (base' := w.heap.size) ho2 (by first | omega | (simp only [szA, szS, szD, World.heap_drewN] at * <;> omega))); clear ho2 hx2
        have Og3_2 := Lib.hid (Own.mono (base' := w.heap.size) ho3 (by first | omega | (simp only [szA, szS, szD, World.heap_drewN] at * <;> omega))); clear ho3 hx3
        have APg13 := Lib.hid ap13; clear ap13
        clear hb
        obtain ⟨cp2_0, cp2_1, cp2_2, cp2_3, cp2_4, fp2_0, fp2_1, fp2_2, fp2_3, fp2_4⟩ := box5 Xp_2.out; have lp2 := heap_lt Xp_2.out
        obtain ⟨cres2_0, cres2_1, cres2_2, cres2_3, cres2_4, fres2_0, fres2_1, fres2_2, fres2_3, fres2_4⟩ := box5 Xres_2.out; have lres2 := heap_lt Xres_2.out
        have S2 : w.heap.size ≤ w2.heap.size := (by omega)
        clear cp1_0 cp1_1 cp1_2 cp1_3 cp1_4 fp1_0 fp1_1 fp1_2 fp1_3 fp1_4 cres1_0 cres1_1 cres1_2 cres1_3 cres1_4 fres1_0 fres1_1 fres1_2 fres1_3 fres1_4
        obtain ⟨w3, hw⟩ : ∃ x : World, x = ((w2.alloc (.cells #[.int .i64 c.room, .slice ag1 c.items.length pg1, .slice ag2 c.senders.length pg2, .slice (some ⟨w2.heap.size + 1, 0, none⟩) 0 0, .bool true] 25)).alloc (.cells #[] 3)) := ⟨_, rfl⟩
        have B3 := Lib.hid (show Below w.heap.size w w3 by rw [hw]; exact (Below.alloc (Below.alloc B2.out (by first | omega | (simp only [szA, szS, szD, World.heap_drewN] at * <;> omega)) _) (by first | omega | (simp only [szA, szS, szD, World.heap_drewN] at * <;> omega)) _))
        have N3 : w2.heap.size + 2 ≤ w3.heap.size := (by rw [hw]; simp only [szS, szA]; omega)
        have Og1_3 := Lib.hid (show Own w.heap.size 3 1 encI w3 (.slice ag1 c.items.length pg1) c.items by rw [hw]; exact ((Og1_2.out.alloc _).alloc _))
        have Og2_3 := Lib.hid (show Own w.heap.size 58 2 encP w3 (.slice ag2 c.senders.length pg2) c.senders by rw [hw]; exact ((Og2_2.out.alloc _).alloc _))
        have Og3_3 := Lib.hid (show Own w.heap.size 3 1 encI w3 (.slice ag3 c.getters.length pg3) c.getters by rw [hw]; exact ((Og3_2.out.alloc _).alloc _))
        have Xp_3 := Lib.hid (show w3.heap[w.heap.size]? = some (.cells #[.int .i64 c.room, .slice aP1 c.items.length pP1, .slice aP2 c.senders.length pP2, .slice aP3 c.getters.length pP3, .bool false] 25 (0, 0)) by rw [hw]; exact (heap_up (heap_up Xp_2.out)))
        have Xres_3 := Lib.hid (show w3.heap[w.heap.size + 1]? = some (.cells #[.int .i64 0, .slice none 0 0, .slice none 0 0, .slice none 0 0, .bool false] 25 (0, 0)) by rw [hw]; exact (heap_up (heap_up Xres_2.out)))
        have Xout_3 := Lib.hid (show w3.heap[w2.heap.size]? = some (.cells #[.int .i64 c.room, .slice ag1 c.items.length pg1, .slice ag2 c.senders.length pg2, .slice (some ⟨w2.heap.size + 1, 0, none⟩) 0 0, .bool true] 25 (0, 0)) by rw [hw]; exact (heap_up (heap_at' (n := w2.heap.size) (by first | omega | (simp only [szA, szS, szD, World.heap_drewN] at * <;> omega)))))
        have Xe0_3 := Lib.hid (show w3.heap[w2.heap.size + 1]? = some (.cells #[] 3 (0, 0)) by rw [hw]; exact (heap_at' (n := w2.heap.size + 1) (by first | omega | (simp only [szA, szS, szD, World.heap_drewN] at * <;> omega))))
        have Q3 := Lib.hid (show w3.heap.size = w2.heap.size + 2 by rw [hw]; simp only [szS, szA])
        have HW3 := Lib.hid hw; clear hw
        obtain ⟨cp3_0, cp3_1, cp3_2, cp3_3, cp3_4, fp3_0, fp3_1, fp3_2, fp3_3, fp3_4⟩ := box5 Xp_3.out; have lp3 := heap_lt Xp_3.out
        obtain ⟨cres3_0, cres3_1, cres3_2, cres3_3, cres3_4, fres3_0, fres3_1, fres3_2, fres3_3, fres3_4⟩ := box5 Xres_3.out; have lres3 := heap_lt Xres_3.out
        obtain ⟨cout3_0, cout3_1, cout3_2, cout3_3, cout3_4, fout3_0, fout3_1, fout3_2, fout3_3, fout3_4⟩ := box5 Xout_3.out; have lout3 := heap_lt Xout_3.out
        have le03 := heap_lt Xe0_3.out
        have S3 : w.heap.size ≤ w3.heap.size := (by omega)
        have ne1 : w.heap.size ≠ w2.heap.size := by omega
        have ne2 := ne1.symm
        have ne3 : w.heap.size + 1 ≠ w2.heap.size := by omega
        have ne4 := ne3.symm
        have nx0p : w.heap.size ≠ w3.heap.size + 1 := by omega
        have nx1p : w.heap.size ≠ w3.heap.size + 1 + 1 := by omega
        have nx2p : w.heap.size ≠ w3.heap.size + 2 := by omega
        have nx0res : w.heap.size + 1 ≠ w3.heap.size + 1 := by omega
        have nx1res : w.heap.size + 1 ≠ w3.heap.size + 1 + 1 := by omega
        have nx2res : w.heap.size + 1 ≠ w3.heap.size + 2 := by omega
        go_wp2_with (rw [← HW3.out])
        go_region_held3 (fun w' => w'.cell? ⟨w2.heap.size, 0, none⟩ = some (.int .i64 c.room) ∧ w'.cell? ⟨w2.heap.size, 1, none⟩ = some (.slice ag1 c.items.length pg1) ∧ w'.cell? ⟨w2.heap.size, 2, none⟩ = some (.slice ag2 c.senders.length pg2) ∧ w'.cell? ⟨w2.heap.size, 3, none⟩ = some (.slice (some ⟨w2.heap.size + 1, 0, none⟩) 0 0) ∧ w'.cell? ⟨w2.heap.size, 4, none⟩ = some (.bool true) ∧ w'.cell? ⟨w.heap.size, 3, none⟩ = some (.slice aP3 c.getters.length pP3)) (go_keep)
          ((refine step_clone _ encI_len encI_one (by rfl) _ _ 22 (by rfl) 3 _ 8 Try.underlying22 info_int rfl (by decide) (w3.heap.size) _ (by rfl) (by exact heap_at' (n := w3.heap.size) (by first | omega | (simp only [szA, szS, szD, World.heap_drewN] at * <;> omega))) (by omega) (.slice aP3 c.getters.length pP3) c.getters (by rfl) (by exact (Row.below HI3.out (Below.alloc B3.out (by first | omega | (simp only [szA, szS, szD, World.heap_drewN] at * <;> omega)) _).drew)) (by decide) (by omega) ?_; intro asg psg w4 ho_sg hg; have hb := clone_below (W := w3) (by exact hg); clear hg; have APE2 := Lib.hid (show Apart (.slice (some ⟨w2.heap.size + 1, 0, none⟩) 0 0) (.slice asg c.getters.length psg) from fun g e1 e2 => (by have e3 : w2.heap.size + 1 = g := Option.some.inj e1; have := ho_sg.blk _ e2; omega)); have APE := Lib.hid (show Apart (.slice ag1 c.items.length pg1) (.slice (some ⟨w2.heap.size + 1, 0, none⟩) 0 0) from fun g e1 e2 => (by have e3 : w2.heap.size + 1 = g := Option.some.inj e2; have := Og1_2.out.hi _ e1; omega)); have hbs := hb.size; (try simp only [szA] at hbs); have B4 := Lib.hid (Below.trans B3.out (hb.mono (by first | omega | (simp only [szA, szS, szD, World.heap_drewN] at * <;> omega))) : Below w.heap.size w w4); have Z4 := hb.size; have N4 : w3.heap.size ≤ w4.heap.size := (by first | with_reducible exact Z4 | (simp only [szA, szS, szD] at Z4; omega)); clear Z4; have Xp_4 := Lib.hid (below_at hb Xp_3.out); have Xres_4 := Lib.hid (below_at hb Xres_3.out); have Xout_4 := Lib.hid (below_at hb Xout_3.out); have Xe0_4 := Lib.hid (below_at hb Xe0_3.out); have Og1_4 := Lib.hid (Og1_3.out.kept hb); have Og2_4 := Lib.hid (Og2_3.out.kept hb); have Og3_4 := Lib.hid (Og3_3.out.kept hb); have APsg_g1 := Lib.hid (Own.later_apart Og1_3.out ho_sg (Nat.le_refl _)); have APsg_g3 := Lib.hid (Own.later_apart Og3_3.out ho_sg (Nat.le_refl _)); have Osg_4 := Lib.hid (Own.mono (base' := w.heap.size) ho_sg (by first | omega | (simp only [szA, szS, szD, World.heap_drewN] at * <;> omega))); clear ho_sg; clear hb; obtain ⟨cp4_0, cp4_1, cp4_2, cp4_3, cp4_4, fp4_0, fp4_1, fp4_2, fp4_3, fp4_4⟩ := box5 Xp_4.out; have lp4 := heap_lt Xp_4.out; obtain ⟨cres4_0, cres4_1, cres4_2, cres4_3, cres4_4, fres4_0, fres4_1, fres4_2, fres4_3, fres4_4⟩ := box5 Xres_4.out; have lres4 := heap_lt Xres_4.out; obtain ⟨cout4_0, cout4_1, cout4_2, cout4_3, cout4_4, fout4_0, fout4_1, fout4_2, fout4_3, fout4_4⟩ := box5 Xout_4.out; have lout4 := heap_lt Xout_4.out; have le04 := heap_lt Xe0_4.out; have S4 : w.heap.size ≤ w4.heap.size := (by omega)))
        clear cp2_0 cp2_1 cp2_2 cp2_3 cp2_4 fp2_0 fp2_1 fp2_2 fp2_3 fp2_4 cres2_0 cres2_1 cres2_2 cres2_3 cres2_4 fres2_0 fres2_1 fres2_2 fres2_3 fres2_4 cp3_0 cp3_1 cp3_2 cp3_3 cp3_4 fp3_0 fp3_1 fp3_2 fp3_3 fp3_4 cres3_0 cres3_1 cres3_2 cres3_3 cres3_4 fres3_0 fres3_1 fres3_2 fres3_3 fres3_4 cout3_0 cout3_1 cout3_2 cout3_3 cout3_4 fout3_0 fout3_1 fout3_2 fout3_3 fout3_4
        go_wp2_with (fail)
        refine bodyPost_ret (v := .tuple #[.agg #[.int .i64 c.room, .slice ag1 c.items.length pg1, .slice ag2 c.senders.length pg2, .slice (some ⟨w2.heap.size + 1, 0, none⟩) 0 0, .bool true], .slice asg c.getters.length psg, .bool true]) (by simp [results, Try.results40, go_sem, cres4_0, cres4_1, cres4_2, cres4_3, cres4_4, lres4]) rfl ⟨_, _, rfl, ChanOwn.make (sets5_own Og1_4.out Xres_4.out (by decide) (.int .i64 c.room) (.slice ag1 c.items.length pg1) (.slice ag2 c.senders.length pg2) (.slice (some ⟨w2.heap.size + 1, 0, none⟩) 0 0) (.bool true)) (sets5_own Og2_4.out Xres_4.out (by decide) (.int .i64 c.room) (.slice ag1 c.items.length pg1) (.slice ag2 c.senders.length pg2) (.slice (some ⟨w2.heap.size + 1, 0, none⟩) 0 0) (.bool true)) (Own.empty (sets5_off Xe0_4.out (by first | omega | (simp only [szA, szS, szD, World.heap_drewN] at * <;> omega)) (.int .i64 c.room) (.slice ag1 c.items.length pg1) (.slice ag2 c.senders.length pg2) (.slice (some ⟨w2.heap.size + 1, 0, none⟩) 0 0) (.bool true)) (by omega) : Own w.heap.size 3 1 encI _ _ _) (Nat.le_refl _) APE.out, LOwn.of (sets5_own Osg_4.out Xres_4.out (by decide) (.int .i64 c.room) (.slice ag1 c.items.length pg1) (.slice ag2 c.senders.length pg2) (.slice (some ⟨w2.heap.size + 1, 0, none⟩) 0 0) (.bool true)) (Nat.le_refl _), Free.make5 (sets5_own Osg_4.out Xres_4.out (by decide) (.int .i64 c.room) (.slice ag1 c.items.length pg1) (.slice ag2 c.senders.length pg2) (.slice (some ⟨w2.heap.size + 1, 0, none⟩) 0 0) (.bool true)) APsg_g1.out.symm (sets5_own Og2_4.out Xres_4.out (by decide) (.int .i64 c.room) (.slice ag1 c.items.length pg1) (.slice ag2 c.senders.length pg2) (.slice (some ⟨w2.heap.size + 1, 0, none⟩) 0 0) (.bool true)) APE2.out (fun g e => by cases e) (fun g e => by cases e), (sets5_below B4.out (by first | omega | (simp only [szA, szS, szD, World.heap_drewN] at * <;> omega)) (.int .i64 c.room) (.slice ag1 c.items.length pg1) (.slice ag2 c.senders.length pg2) (.slice (some ⟨w2.heap.size + 1, 0, none⟩) 0 0) (.bool true))⟩
    · rw [hcl] at Xp_1 HP cp1_4
      have HCL := Lib.hid hcl; clear hcl
      obtain ⟨rfl, rfl, rfl⟩ := close_no HR.out (by simp [closeOk, HCL.out])
      go_wp2_with (fail)
      refine bodyPost_ret (v := .tuple #[.agg #[.int .i64 0, .slice none 0 0, .slice none 0 0, .slice none 0 0, .bool false], .slice (some ⟨w1.heap.size, 0, none⟩) 0 0, .bool false]) (by simp [results, Try.results40, go_sem, cres1_0, cres1_1, cres1_2, cres1_3, cres1_4, lres1]) rfl ⟨_, _, rfl, ChanOwn.nils, LOwn.of (Own.empty (heap_at' (n := w1.heap.size) (by first | omega | (simp only [szA, szS, szD, World.heap_drewN] at * <;> omega))) (by omega)) (Nat.le_refl _), (fun g e hm => by simp [aggBlocks, Value.ownBlock] at hm), (Below.alloc (sets5_below B1.out (by first | omega | (simp only [szA, szS, szD, World.heap_drewN] at * <;> omega)) (.int .i64 0) (.slice none 0 0) (.slice none 0 0) (.slice none 0 0) (.bool false)) (by first | omega | (simp only [szA, szS, szD, World.heap_drewN] at * <;> omega)) _)⟩
end Go.Proofs.Ytpgiinklbnlloaa
