/- A copy of a channel (made by gen_chan.py). -/
import Derived.Test.YtpgiinklbnlloaaDrChan
import Derived.Test.YtpgiinklbnlloaaChanNew
import Derived.Test.YtpgiinklbnlloaaChanValid
import Derived.Test.YtpgiinklbnlloaaJoin
import Derived.Test.YtpgiinklbnlloaaSets
namespace Go.Proofs.Ytpgiinklbnlloaa
open Go.RowKit
set_option linter.unusedSimpArgs false
set_option linter.unusedVariables false
set_option maxHeartbeats 3200000 in
theorem chanClone_calls (v : Value) (c : ChanD)  (w : World) (h : ChanRow w v c) (hn : c.items.length + c.senders.length + c.getters.length ≤ 1048576) :
    Calls Try.prog 53 #[v] w fun e w' => ∃ v', e = .returned v' ∧ ChanOwn w.heap.size w'.heap.size w' v' c ∧ Below w.heap.size w w' := by
  have HP := Lib.hid h
  obtain ⟨aP1, pP1, aP2, pP2, aP3, pP3, rfl, hr1, hr2, hr3⟩ := h
  have HI1 := Lib.hid hr1; have HI2 := Lib.hid hr2; have HI3 := Lib.hid hr3; clear hr1 hr2 hr3
  go_enter Try.func53, Try.ntmps53
  go_wp2_with (fail)
  refine (cloneInts_calls _ c.items _ (Row.below HI1.out (Below.alloc (Below.alloc (Below.refl _ _) (by first | omega | (simp only [szA, szS, szD, World.heap_drewN] at * <;> omega)) _) (by first | omega | (simp only [szA, szS, szD, World.heap_drewN] at * <;> omega)) _)) (by omega)).mono ?_
  rintro e w1 ⟨v1, rfl, ho_g1, hb⟩
  have B1 := Lib.hid (Below.trans (Below.alloc (Below.alloc (Below.refl _ _) (by first | omega | (simp only [szA, szS, szD, World.heap_drewN] at * <;> omega)) _) (by first | omega | (simp only [szA, szS, szD, World.heap_drewN] at * <;> omega)) _) (hb.mono (by first | omega | (simp only [szA, szS, szD, World.heap_drewN] at * <;> omega))) : Below w.heap.size w w1)
  have Z1 := hb.size
  have N1 : w.heap.size + 2 ≤ w1.heap.size := (by first | with_reducible exact Z1 | (simp only [szA, szS, szD] at Z1; omega))
  clear Z1
  have Xp_1 : Hid (w1.heap[w.heap.size]? = some (.cells #[.int .i64 c.room, .slice aP1 c.items.length pP1, .slice aP2 c.senders.length pP2, .slice aP3 c.getters.length pP3, .bool c.closed] 25 (0, 0))) := below_at hb (heap_up (heap_at' (n := w.heap.size) (by first | omega | (simp only [szA, szS, szD, World.heap_drewN] at * <;> omega))))
  have Xres_1 : Hid (w1.heap[w.heap.size + 1]? = some (.cells #[.int .i64 0, .slice none 0 0, .slice none 0 0, .slice none 0 0, .bool false] 25 (0, 0))) := below_at hb (heap_at' (n := w.heap.size + 1) (by first | omega | (simp only [szA, szS, szD, World.heap_drewN] at * <;> omega)))
  have Og1_1 := Lib.hid (Own.mono (base' := w.heap.size) ho_g1.own (by first | omega | (simp only [szA, szS, szD, World.heap_drewN] at * <;> omega))); obtain ⟨ag1, pg1, rfl, hx_g1⟩ := ho_g1; clear hx_g1
  clear hb
  obtain ⟨cp1_0, cp1_1, cp1_2, cp1_3, cp1_4, fp1_0, fp1_1, fp1_2, fp1_3, fp1_4⟩ := box5 Xp_1.out; have lp1 := heap_lt Xp_1.out
  obtain ⟨cres1_0, cres1_1, cres1_2, cres1_3, cres1_4, fres1_0, fres1_1, fres1_2, fres1_3, fres1_4⟩ := box5 Xres_1.out; have lres1 := heap_lt Xres_1.out
  have S1 : w.heap.size ≤ w1.heap.size := (by omega)
  go_wp2_with (at_builtin; refine wpList_clone _ encP_len one_pair rfl _ _ 23 rfl 58 _ 16 Try.underlying23 info_Letter rfl (by decide) rfl (.slice aP2 c.senders.length pP2) c.senders rfl (Row.below HI2.out (below_setAt B1.out (w.heap.size) 1 (by first | omega | (simp only [szA, szS, szD, World.heap_drewN] at * <;> omega)) (.slice ag1 c.items.length pg1))) (by decide) (by omega) ?_; intro ag2 pg2 w2 ho_g2 hb; have B2 := Lib.hid (Below.trans (below_setAt B1.out (w.heap.size) 1 (by first | omega | (simp only [szA, szS, szD, World.heap_drewN] at * <;> omega)) (.slice ag1 c.items.length pg1)) (hb.mono (by first | omega | (simp only [szA, szS, szD, World.heap_drewN] at * <;> omega))) : Below w.heap.size w w2); have Z2 := hb.size; have N2 : w1.heap.size ≤ w2.heap.size := (by first | with_reducible exact Z2 | (simp only [szA, szS, szD] at Z2; omega)); clear Z2; have Xp_2 := Lib.hid (below_at hb (set_at (a := ⟨w.heap.size, 1, none⟩) Xp_1.out rfl rfl (.slice ag1 c.items.length pg1))); have Xres_2 := Lib.hid (below_at hb (set_off (a := ⟨w.heap.size, 1, none⟩) Xres_1.out (by first | omega | (simp only [szA, szS, szD, World.heap_drewN] at * <;> omega)) (.slice ag1 c.items.length pg1))); have Og1_2 := Lib.hid ((Og1_1.out.setB (w.heap.size) 1 Xp_1.out (by decide) (.slice ag1 c.items.length pg1)).kept hb); have Og2_2 := Lib.hid (Own.mono (base' := w.heap.size) ho_g2 (by first | omega | (simp only [szA, szS, szD, World.heap_drewN] at * <;> omega))); clear ho_g2; clear hb; obtain ⟨cp2_0, cp2_1, cp2_2, cp2_3, cp2_4, fp2_0, fp2_1, fp2_2, fp2_3, fp2_4⟩ := box5 Xp_2.out; have lp2 := heap_lt Xp_2.out; obtain ⟨cres2_0, cres2_1, cres2_2, cres2_3, cres2_4, fres2_0, fres2_1, fres2_2, fres2_3, fres2_4⟩ := box5 Xres_2.out; have lres2 := heap_lt Xres_2.out; have S2 : w.heap.size ≤ w2.heap.size := (by omega))
  clear cp1_0 cp1_1 cp1_2 cp1_3 cp1_4 fp1_0 fp1_1 fp1_2 fp1_3 fp1_4 cres1_0 cres1_1 cres1_2 cres1_3 cres1_4 fres1_0 fres1_1 fres1_2 fres1_3 fres1_4
  go_wp2_with (fail)
  refine (cloneInts_calls _ c.getters _ (Row.below HI3.out (below_setAt B2.out (w.heap.size) 2 (by first | omega | (simp only [szA, szS, szD, World.heap_drewN] at * <;> omega)) (.slice ag2 c.senders.length pg2))) (by omega)).mono ?_
  rintro e w3 ⟨v3, rfl, ho_g3, hb⟩
  have B3 := Lib.hid (Below.trans (below_setAt B2.out (w.heap.size) 2 (by first | omega | (simp only [szA, szS, szD, World.heap_drewN] at * <;> omega)) (.slice ag2 c.senders.length pg2)) (hb.mono (by first | omega | (simp only [szA, szS, szD, World.heap_drewN] at * <;> omega))) : Below w.heap.size w w3)
  have Z3 := hb.size
  have N3 : w2.heap.size ≤ w3.heap.size := (by first | with_reducible exact Z3 | (simp only [szA, szS, szD] at Z3; omega))
  clear Z3
  have Xp_3 := Lib.hid (below_at hb (set_at (a := ⟨w.heap.size, 2, none⟩) Xp_2.out rfl rfl (.slice ag2 c.senders.length pg2)))
  have Xres_3 := Lib.hid (below_at hb (set_off (a := ⟨w.heap.size, 2, none⟩) Xres_2.out (by first | omega | (simp only [szA, szS, szD, World.heap_drewN] at * <;> omega)) (.slice ag2 c.senders.length pg2)))
  have Og1_3 := Lib.hid ((Og1_2.out.setB (w.heap.size) 2 Xp_2.out (by decide) (.slice ag2 c.senders.length pg2)).kept hb)
  have Og2_3 := Lib.hid ((Og2_2.out.setB (w.heap.size) 2 Xp_2.out (by decide) (.slice ag2 c.senders.length pg2)).kept hb)
  have APg3_g1 := Lib.hid (Own.later_apart (Og1_2.out.setB (w.heap.size) 2 Xp_2.out (by decide) (.slice ag2 c.senders.length pg2)) ho_g3.own (Nat.le_refl _))
  have Og3_3 := Lib.hid (Own.mono (base' := w.heap.size) ho_g3.own (by first | omega | (simp only [szA, szS, szD, World.heap_drewN] at * <;> omega))); obtain ⟨ag3, pg3, rfl, hx_g3⟩ := ho_g3; clear hx_g3
  clear hb
  obtain ⟨cp3_0, cp3_1, cp3_2, cp3_3, cp3_4, fp3_0, fp3_1, fp3_2, fp3_3, fp3_4⟩ := box5 Xp_3.out; have lp3 := heap_lt Xp_3.out
  obtain ⟨cres3_0, cres3_1, cres3_2, cres3_3, cres3_4, fres3_0, fres3_1, fres3_2, fres3_3, fres3_4⟩ := box5 Xres_3.out; have lres3 := heap_lt Xres_3.out
  have S3 : w.heap.size ≤ w3.heap.size := (by omega)
  clear cp2_0 cp2_1 cp2_2 cp2_3 cp2_4 fp2_0 fp2_1 fp2_2 fp2_3 fp2_4 cres2_0 cres2_1 cres2_2 cres2_3 cres2_4 fres2_0 fres2_1 fres2_2 fres2_3 fres2_4
  go_wp2_with (fail)
  refine bodyPost_ret (v := .agg #[.int .i64 c.room, .slice ag1 c.items.length pg1, .slice ag2 c.senders.length pg2, .slice ag3 c.getters.length pg3, .bool c.closed]) (by simp [results, Try.results53, go_sem, cres3_0, cres3_1, cres3_2, cres3_3, cres3_4, lres3]) rfl ⟨_, rfl, ChanOwn.make (sets5_own (Og1_3.out.setB (w.heap.size) 3 Xp_3.out (by decide) (.slice ag3 c.getters.length pg3)) (set_off (a := ⟨w.heap.size, 3, none⟩) Xres_3.out (by first | omega | (simp only [szA, szS, szD, World.heap_drewN] at * <;> omega)) (.slice ag3 c.getters.length pg3)) (by decide) (.int .i64 c.room) (.slice ag1 c.items.length pg1) (.slice ag2 c.senders.length pg2) (.slice ag3 c.getters.length pg3) (.bool c.closed)) (sets5_own (Og2_3.out.setB (w.heap.size) 3 Xp_3.out (by decide) (.slice ag3 c.getters.length pg3)) (set_off (a := ⟨w.heap.size, 3, none⟩) Xres_3.out (by first | omega | (simp only [szA, szS, szD, World.heap_drewN] at * <;> omega)) (.slice ag3 c.getters.length pg3)) (by decide) (.int .i64 c.room) (.slice ag1 c.items.length pg1) (.slice ag2 c.senders.length pg2) (.slice ag3 c.getters.length pg3) (.bool c.closed)) (sets5_own (Og3_3.out.setB (w.heap.size) 3 Xp_3.out (by decide) (.slice ag3 c.getters.length pg3)) (set_off (a := ⟨w.heap.size, 3, none⟩) Xres_3.out (by first | omega | (simp only [szA, szS, szD, World.heap_drewN] at * <;> omega)) (.slice ag3 c.getters.length pg3)) (by decide) (.int .i64 c.room) (.slice ag1 c.items.length pg1) (.slice ag2 c.senders.length pg2) (.slice ag3 c.getters.length pg3) (.bool c.closed)) (Nat.le_refl _) APg3_g1.out.symm, (sets5_below (below_setAt B3.out (w.heap.size) 3 (by first | omega | (simp only [szA, szS, szD, World.heap_drewN] at * <;> omega)) (.slice ag3 c.getters.length pg3)) (by first | omega | (simp only [szA, szS, szD, World.heap_drewN] at * <;> omega)) (.int .i64 c.room) (.slice ag1 c.items.length pg1) (.slice ag2 c.senders.length pg2) (.slice ag3 c.getters.length pg3) (.bool c.closed))⟩
end Go.Proofs.Ytpgiinklbnlloaa
