/- impl.FormatOp: what it returns (made by gen_fmtopi.py). -/
import Derived.Test.YthbnbofoefdneaaDoorLaid
namespace Go.Proofs.YthbnbofoefdneaaDoor
open Go.RowKit
set_option linter.unusedSimpArgs false
set_option linter.unusedVariables false
set_option maxHeartbeats 3200000 in
theorem FormatOp_calls (x : OpT) (w : World) (hL : LaidW w) (h1 : InB x.2.1) (h2 : InB x.2.2) :
    Calls Tryd.prog 9 #[.agg #[.int .i64 x.1, .int .i64 x.2.1, .int .i64 x.2.2]] w fun e w' => e = .returned (.string (opText x)) ∧ Below w.heap.size w w' := by
  obtain ⟨k, on, ar⟩ := x
  dsimp only at h1 h2
  obtain ⟨b, off, cp, hg, hc1, hc2, hgl, hbl, htab⟩ := hL.2
  have HP := Lib.hid hL.1; have HT := Lib.hid htab; clear hL htab
  have H1 := Lib.hid h1; have H2 := Lib.hid h2; clear h1 h2
  by_cases hk : Kd k
  · have HK := Lib.hid hk; obtain ⟨hk1, hk2⟩ := hk
    obtain ⟨kn, rfl⟩ := Int.eq_ofNat_of_zero_le (show 0 ≤ k by omega)
    obtain ⟨x, hx⟩ := tab_ex (show kn < 11 by omega)
    obtain ⟨e0, e1, e2⟩ := HT.out kn x hx
    obtain ⟨hw, hba⟩ := tab_word hx
    obtain ⟨hbo, hbr⟩ := hba (by omega)
    clear hx
    obtain ⟨wl, bo, br⟩ := x
    dsimp only at e0 e1 e2 hw hbo hbr
    obtain ⟨s, hs⟩ : ∃ s : ByteArray, ⟨wl.toArray⟩ = s := ⟨_, rfl⟩
    rw [hs] at e0 hw
    clear hs
    have hs2 := (wordB_size HK.out).2
    rw [← hw] at hs2
    have HW := Lib.hid hw; clear hw
    have d1 : decide ((kn : Int) < 1) = false := decide_eq_false (by omega)
    have d2 : decide ((11 : Int) ≤ (kn : Int)) = false := decide_eq_false (by omega)
    have d3 : (0 : Int) ≤ (kn : Int) := by omega
    have d4 : (kn : Int) < 11 := by omega
    obtain ⟨so, hso⟩ : ∃ s, itoaB on = s := ⟨_, rfl⟩
    obtain ⟨sa, hsa⟩ : ∃ s, itoaB ar = s := ⟨_, rfl⟩
    have hzo : so.size ≤ 21 := by rw [← hso]; exact itoaB_size H1.out.1 H1.out.2
    have hza : sa.size ≤ 21 := by rw [← hsa]; exact itoaB_size H2.out.1 H2.out.2
    have HSO := Lib.hid hso; have HSA := Lib.hid hsa; clear hso hsa
    rcases argsN_three (kn : Int) with ha | ha | ha
    · rw [ha] at hbo hbr
      obtain rfl : bo = false := hbo
      obtain rfl : br = true := hbr
      have HA := Lib.hid ha; clear ha
      have HR := Lib.hid (opText_0 (x := ((kn : Int), on, ar)) HK.out HA.out)
      go_enter Tryd.func9, Tryd.ntmps9
      go_wp2_with (fail)
      refine (ItoaI_calls ar _ (HP.out.below (Below.alloc (Below.alloc (Below.refl _ _) (by first | omega | (simp only [szA, szS, szD, World.heap_drewN] at * <;> omega)) _) (by first | omega | (simp only [szA, szS, szD, World.heap_drewN] at * <;> omega)) _)) H2.out).mono ?_
      rw [HSA.out]
      rintro e w1 ⟨rfl, hb⟩
      have B1 := Lib.hid (Below.trans (Below.alloc (Below.alloc (Below.refl _ _) (by first | omega | (simp only [szA, szS, szD, World.heap_drewN] at * <;> omega)) _) (by first | omega | (simp only [szA, szS, szD, World.heap_drewN] at * <;> omega)) _) (hb.mono (by first | omega | (simp only [szA, szS, szD, World.heap_drewN] at * <;> omega))) : Below w.heap.size w w1)
      have Z1 := hb.size
      have N1 : w.heap.size + 2 ≤ w1.heap.size := (by first | with_reducible exact Z1 | (simp only [szA, szS, szD] at Z1; omega))
      clear Z1
      have Xo_1 : Hid (w1.heap[w.heap.size]? = some (.cells #[.int .i64 (kn : Int), .int .i64 on, .int .i64 ar] 23 (0, 0))) := below_at hb (heap_up (heap_at' (n := w.heap.size) (by first | omega | (simp only [szA, szS, szD, World.heap_drewN] at * <;> omega))))
      have Xp_1 : Hid (w1.heap[w.heap.size + 1]? = some (.cells #[.string s, .bool false, .bool true] 48 (0, 0))) := below_at hb (heap_at' (n := w.heap.size + 1) (by first | omega | (simp only [szA, szS, szD, World.heap_drewN] at * <;> omega)))
      clear hb
      obtain ⟨co1_0, co1_1, co1_2, fo1_0, fo1_1, fo1_2⟩ := box3 Xo_1.out; have lo1 := heap_lt Xo_1.out
      obtain ⟨cp1_0, cp1_1, cp1_2, fp1_0, fp1_1, fp1_2⟩ := box3 Xp_1.out; have lp1 := heap_lt Xp_1.out
      have S1 : w.heap.size ≤ w1.heap.size := (by omega)
      go_wp2
      go_ret
      exact ⟨by rw [HR.out, ← HW.out, HSA.out]; simp only [ByteArray.append_assoc]; rfl, B1.out⟩
    · rw [ha] at hbo hbr
      obtain rfl : bo = true := hbo
      obtain rfl : br = false := hbr
      have HA := Lib.hid ha; clear ha
      have HR := Lib.hid (opText_1 (x := ((kn : Int), on, ar)) HK.out HA.out)
      go_enter Tryd.func9, Tryd.ntmps9
      go_wp2_with (fail)
      refine (ItoaI_calls on _ (HP.out.below (Below.alloc (Below.alloc (Below.refl _ _) (by first | omega | (simp only [szA, szS, szD, World.heap_drewN] at * <;> omega)) _) (by first | omega | (simp only [szA, szS, szD, World.heap_drewN] at * <;> omega)) _)) H1.out).mono ?_
      rw [HSO.out]
      rintro e w1 ⟨rfl, hb⟩
      have B1 := Lib.hid (Below.trans (Below.alloc (Below.alloc (Below.refl _ _) (by first | omega | (simp only [szA, szS, szD, World.heap_drewN] at * <;> omega)) _) (by first | omega | (simp only [szA, szS, szD, World.heap_drewN] at * <;> omega)) _) (hb.mono (by first | omega | (simp only [szA, szS, szD, World.heap_drewN] at * <;> omega))) : Below w.heap.size w w1)
      have Z1 := hb.size
      have N1 : w.heap.size + 2 ≤ w1.heap.size := (by first | with_reducible exact Z1 | (simp only [szA, szS, szD] at Z1; omega))
      clear Z1
      have Xo_1 : Hid (w1.heap[w.heap.size]? = some (.cells #[.int .i64 (kn : Int), .int .i64 on, .int .i64 ar] 23 (0, 0))) := below_at hb (heap_up (heap_at' (n := w.heap.size) (by first | omega | (simp only [szA, szS, szD, World.heap_drewN] at * <;> omega))))
      have Xp_1 : Hid (w1.heap[w.heap.size + 1]? = some (.cells #[.string s, .bool true, .bool false] 48 (0, 0))) := below_at hb (heap_at' (n := w.heap.size + 1) (by first | omega | (simp only [szA, szS, szD, World.heap_drewN] at * <;> omega)))
      clear hb
      obtain ⟨co1_0, co1_1, co1_2, fo1_0, fo1_1, fo1_2⟩ := box3 Xo_1.out; have lo1 := heap_lt Xo_1.out
      obtain ⟨cp1_0, cp1_1, cp1_2, fp1_0, fp1_1, fp1_2⟩ := box3 Xp_1.out; have lp1 := heap_lt Xp_1.out
      have S1 : w.heap.size ≤ w1.heap.size := (by omega)
      go_wp2
      go_ret
      exact ⟨by rw [HR.out, ← HW.out, HSO.out]; simp only [ByteArray.append_assoc]; rfl, B1.out⟩
    · rw [ha] at hbo hbr
      obtain rfl : bo = true := hbo
      obtain rfl : br = true := hbr
      have HA := Lib.hid ha; clear ha
      have HR := Lib.hid (opText_2 (x := ((kn : Int), on, ar)) HK.out HA.out)
      go_enter Tryd.func9, Tryd.ntmps9
      go_wp2_with (fail)
      refine (ItoaI_calls on _ (HP.out.below (Below.alloc (Below.alloc (Below.refl _ _) (by first | omega | (simp only [szA, szS, szD, World.heap_drewN] at * <;> omega)) _) (by first | omega | (simp only [szA, szS, szD, World.heap_drewN] at * <;> omega)) _)) H1.out).mono ?_
      rw [HSO.out]
      rintro e w1 ⟨rfl, hb⟩
      have B1 := Lib.hid (Below.trans (Below.alloc (Below.alloc (Below.refl _ _) (by first | omega | (simp only [szA, szS, szD, World.heap_drewN] at * <;> omega)) _) (by first | omega | (simp only [szA, szS, szD, World.heap_drewN] at * <;> omega)) _) (hb.mono (by first | omega | (simp only [szA, szS, szD, World.heap_drewN] at * <;> omega))) : Below w.heap.size w w1)
      have Z1 := hb.size
      have N1 : w.heap.size + 2 ≤ w1.heap.size := (by first | with_reducible exact Z1 | (simp only [szA, szS, szD] at Z1; omega))
      clear Z1
      have Xo_1 : Hid (w1.heap[w.heap.size]? = some (.cells #[.int .i64 (kn : Int), .int .i64 on, .int .i64 ar] 23 (0, 0))) := below_at hb (heap_up (heap_at' (n := w.heap.size) (by first | omega | (simp only [szA, szS, szD, World.heap_drewN] at * <;> omega))))
      have Xp_1 : Hid (w1.heap[w.heap.size + 1]? = some (.cells #[.string s, .bool true, .bool true] 48 (0, 0))) := below_at hb (heap_at' (n := w.heap.size + 1) (by first | omega | (simp only [szA, szS, szD, World.heap_drewN] at * <;> omega)))
      clear hb
      obtain ⟨co1_0, co1_1, co1_2, fo1_0, fo1_1, fo1_2⟩ := box3 Xo_1.out; have lo1 := heap_lt Xo_1.out
      obtain ⟨cp1_0, cp1_1, cp1_2, fp1_0, fp1_1, fp1_2⟩ := box3 Xp_1.out; have lp1 := heap_lt Xp_1.out
      have S1 : w.heap.size ≤ w1.heap.size := (by omega)
      have z2 : (s ++ (⟨#[32]⟩ ++ so)).size = s.size + (1 + so.size) := (by rw [ByteArray.size_append, ByteArray.size_append]; rfl)
      go_wp2_with (fail)
      refine (ItoaI_calls ar _ (HP.out.below B1.out) H2.out).mono ?_
      rw [HSA.out]
      rintro e w2 ⟨rfl, hb⟩
      have B2 := Lib.hid (Below.trans B1.out (hb.mono (by first | omega | (simp only [szA, szS, szD, World.heap_drewN] at * <;> omega))) : Below w.heap.size w w2)
      have Z2 := hb.size
      have N2 : w1.heap.size ≤ w2.heap.size := (by first | with_reducible exact Z2 | (simp only [szA, szS, szD] at Z2; omega))
      clear Z2
      have Xo_2 := Lib.hid (below_at hb Xo_1.out)
      have Xp_2 := Lib.hid (below_at hb Xp_1.out)
      clear hb
      obtain ⟨co2_0, co2_1, co2_2, fo2_0, fo2_1, fo2_2⟩ := box3 Xo_2.out; have lo2 := heap_lt Xo_2.out
      obtain ⟨cp2_0, cp2_1, cp2_2, fp2_0, fp2_1, fp2_2⟩ := box3 Xp_2.out; have lp2 := heap_lt Xp_2.out
      have S2 : w.heap.size ≤ w2.heap.size := (by omega)
      clear co1_0 co1_1 co1_2 fo1_0 fo1_1 fo1_2 cp1_0 cp1_1 cp1_2 fp1_0 fp1_1 fp1_2
      go_wp2
      go_ret
      exact ⟨by rw [HR.out, ← HW.out, HSO.out, HSA.out]; simp only [ByteArray.append_assoc]; rfl, B2.out⟩
  · have HR := Lib.hid (opText_none (x := (k, on, ar)) hk)
    by_cases hk1 : k < 1
    · have d1 : decide (k < 1) = true := decide_eq_true hk1
      clear hk hk1
      go_enter Tryd.func9, Tryd.ntmps9
      go_wp2
      go_ret
      exact ⟨by rw [HR.out]; rfl, (Below.alloc (Below.refl _ _) (by first | omega | (simp only [szA, szS, szD, World.heap_drewN] at * <;> omega)) _)⟩
    · have d1 : decide (k < 1) = false := decide_eq_false hk1
      have d2 : decide ((11 : Int) ≤ k) = true := decide_eq_true (by unfold Kd at hk; omega)
      clear hk hk1
      go_enter Tryd.func9, Tryd.ntmps9
      go_wp2
      go_ret
      exact ⟨by rw [HR.out]; rfl, (Below.alloc (Below.refl _ _) (by first | omega | (simp only [szA, szS, szD, World.heap_drewN] at * <;> omega)) _)⟩
end Go.Proofs.YthbnbofoefdneaaDoor
