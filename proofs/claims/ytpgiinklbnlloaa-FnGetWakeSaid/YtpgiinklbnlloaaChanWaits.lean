/- l5Waits (made by gen_chan.py). -/
import Derived.Test.YtpgiinklbnlloaaChanSend
import Derived.Test.YtpgiinklbnlloaaChanThr
import Derived.Test.YtpgiinklbnlloaaSets
namespace Go.Proofs.Ytpgiinklbnlloaa
open Go.RowKit
set_option linter.unusedSimpArgs false
set_option linter.unusedVariables false
set_option maxHeartbeats 3200000 in
theorem l5Waits_calls (v : Value) (c : ChanD) (t : Int) (w : World) (h : ChanRow w v c) (hn : c.senders.length ≤ 7) :
    Calls Try.prog 70 #[v, .int .i64 t] w fun e w' => e = .returned (.bool (decide (t ∈ chanThr c))) ∧ Below w.heap.size w w' := by
  have HP := Lib.hid h
  obtain ⟨aP1, pP1, aP2, pP2, aP3, pP3, rfl, hr1, hr2, hr3⟩ := h
  have HI2 := Lib.hid hr2; have HI3 := Lib.hid hr3; clear hr1 hr2 hr3
  have e7 : (c.senders.take 7).map (·.1) = c.senders.map (·.1) := by rw [List.take_of_length_le hn]
  obtain ⟨zs, hzs⟩ : ∃ zs, zs = c.senders.map (·.1) := ⟨_, rfl⟩
  have HZ := Lib.hid hzs; rw [← hzs] at e7; clear hzs; have E7 := Lib.hid e7; clear e7
  go_enter Try.func70, Try.ntmps70
  go_wp2_with (fail)
  refine (l5Threads_calls _ c.senders _ (Row.below HI2.out (Below.alloc (Below.refl _ _) (by first | omega | (simp only [szA, szS, szD, World.heap_drewN] at * <;> omega)) _))).mono ?_
  rw [E7.out]
  rintro e w1 ⟨vz, rfl, ho_z, hb⟩
  have B1 := Lib.hid (Below.trans (Below.alloc (Below.refl _ _) (by first | omega | (simp only [szA, szS, szD, World.heap_drewN] at * <;> omega)) _) (hb.mono (by first | omega | (simp only [szA, szS, szD, World.heap_drewN] at * <;> omega))) : Below w.heap.size w w1)
  have Z1 := hb.size
  have N1 : w.heap.size + 1 ≤ w1.heap.size := (by first | with_reducible exact Z1 | (simp only [szA, szS, szD] at Z1; omega))
  clear Z1
  have Xp_1 : Hid (w1.heap[w.heap.size]? = some (.cells #[.int .i64 c.room, .slice aP1 c.items.length pP1, .slice aP2 c.senders.length pP2, .slice aP3 c.getters.length pP3, .bool c.closed] 25 (0, 0))) := below_at hb (heap_at' (n := w.heap.size) (by first | omega | (simp only [szA, szS, szD, World.heap_drewN] at * <;> omega)))
  have Oz_1 := Lib.hid (Own.mono (base' := w.heap.size) ho_z.own (by first | omega | (simp only [szA, szS, szD, World.heap_drewN] at * <;> omega))); obtain ⟨az, pz, rfl, hx_z⟩ := ho_z; clear hx_z
  clear hb
  obtain ⟨cp1_0, cp1_1, cp1_2, cp1_3, cp1_4, fp1_0, fp1_1, fp1_2, fp1_3, fp1_4⟩ := box5 Xp_1.out; have lp1 := heap_lt Xp_1.out
  have S1 : w.heap.size ≤ w1.heap.size := (by omega)
  go_wp2_with (fail)
  refine (l2At_calls _ zs t _ (Oz_1.out.row encI_len)).mono ?_
  rintro e w' ⟨rfl, rfl⟩
  by_cases h1 : t ∈ zs
  · have d0 : decide (0 ≤ place t zs) = true := decide_eq_true (place_in h1)
    have H1 := Lib.hid h1; clear h1
    go_wp2
    go_ret
    exact ⟨ret_bool (by rw [decide_eq_true]; simp only [chanThr, List.mem_append]; left; rw [← HZ.out]; exact H1.out), B1.out⟩
  · have d0 : decide (0 ≤ place t zs) = false := decide_eq_false (by rw [place_out h1]; decide)
    have H1 := Lib.hid h1; clear h1
    go_wp2_with (fail)
    refine (l2At_calls _ c.getters t _ (Row.below HI3.out B1.out)).mono ?_
    rintro e w' ⟨rfl, rfl⟩
    by_cases h2 : t ∈ c.getters
    · have d1 : decide (0 ≤ place t c.getters) = true := decide_eq_true (place_in h2)
      have H2 := Lib.hid h2; clear h2
      go_wp2
      go_ret
      exact ⟨ret_bool (by rw [decide_eq_true]; simp only [chanThr, List.mem_append]; right; exact H2.out), B1.out⟩
    · have d1 : decide (0 ≤ place t c.getters) = false := decide_eq_false (by rw [place_out h2]; decide)
      have H2 := Lib.hid h2; clear h2
      go_wp2
      go_ret
      exact ⟨ret_bool (by rw [decide_eq_false]; simp only [chanThr, List.mem_append]; rintro (k | k); exact H1.out (by rw [HZ.out]; exact k); exact H2.out k), B1.out⟩
end Go.Proofs.Ytpgiinklbnlloaa
