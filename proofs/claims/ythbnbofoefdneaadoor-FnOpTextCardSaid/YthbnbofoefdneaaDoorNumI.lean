/- impl.parseNumber: the reference's number (made by gen_parsei.py). -/
import Derived.Test.YthbnbofoefdneaaDoorLaidP
import Derived.Test.YthbnbofoefdneaaDoorParseS
namespace Go.Proofs.YthbnbofoefdneaaDoor
open Go.RowKit
set_option linter.unusedSimpArgs false
set_option linter.unusedVariables false
set_option maxHeartbeats 3200000 in
theorem parseNumber_calls (s : ByteArray) (w : World) (hL : LaidP w) :
    Calls Tryd.prog 20 #[.string s] w fun e w' => e = .returned (.tuple #[.int .i64 ((numB s).getD 0), .bool (numB s).isSome]) ∧ Below w.heap.size w w' := by
  have HP := Lib.hid hL.1.1; have HS := Lib.hid hL.2.1; clear hL
  obtain ⟨d, hd⟩ : ∃ d : ByteArray, (⟨(dgs s).toArray⟩ : ByteArray) = d := ⟨_, rfl⟩
  have hdd : d.data.toList = dgs s := by rw [← hd]
  have hdl : d.size = (dgs s).length := by rw [← ba_len, hdd]
  have hsl := dgs_len s
  have HD := Lib.hid hdd; have HDL := Lib.hid hdl; clear hd hdd hdl
  by_cases h1 : d.size < 1
  · have HN := Lib.hid (numI_short (s := s) (by have := HDL.out; omega))
    have d1 : decide ((d.size : Int) < 1) = true := decide_eq_true (by omega)
    go_enter Tryd.func20, Tryd.ntmps20
    go_wp2_with (fail)
    refine (trim_calls s d _ HD.out).mono ?_
    rintro e w1 ⟨rfl, hb⟩
    have B1 := Lib.hid (Below.trans (Below.refl _ _) (hb.mono (by first | omega | (simp only [szA, szS, szD, World.heap_drewN] at * <;> omega))) : Below w.heap.size w w1)
    have Z1 := hb.size
    have N1 : w.heap.size ≤ w1.heap.size := (by first | with_reducible exact Z1 | (simp only [szA, szS, szD] at Z1; omega))
    clear Z1
    clear hb
    have S1 : w.heap.size ≤ w1.heap.size := (by omega)
    go_wp2
    go_ret2
    exact ⟨by rw [HN.out]; rfl, B1.out⟩
  · have d1 : decide ((d.size : Int) < 1) = false := decide_eq_false (by omega)
    by_cases h2 : 17 < d.size
    · have HN := Lib.hid (numI_long (s := s) (by have := HDL.out; omega))
      have d2 : decide (17 < (d.size : Int)) = true := decide_eq_true (by omega)
      go_enter Tryd.func20, Tryd.ntmps20
      go_wp2_with (fail)
      refine (trim_calls s d _ HD.out).mono ?_
      rintro e w1 ⟨rfl, hb⟩
      have B1 := Lib.hid (Below.trans (Below.refl _ _) (hb.mono (by first | omega | (simp only [szA, szS, szD, World.heap_drewN] at * <;> omega))) : Below w.heap.size w w1)
      have Z1 := hb.size
      have N1 : w.heap.size ≤ w1.heap.size := (by first | with_reducible exact Z1 | (simp only [szA, szS, szD] at Z1; omega))
      clear Z1
      clear hb
      have S1 : w.heap.size ≤ w1.heap.size := (by omega)
      go_wp2
      go_ret2
      exact ⟨by rw [HN.out]; rfl, B1.out⟩
    · have d2 : decide (17 < (d.size : Int)) = false := decide_eq_false (by omega)
      have h18 : s.size ≤ 18 := by have := HDL.out; omega
      rcases ha : Lib.atoi s.data.toList with _ | n
      · have HA := Lib.hid ha; have HN := Lib.hid (numI_bad ha); clear ha
        go_enter Tryd.func20, Tryd.ntmps20
        go_wp2_with (fail)
        refine (trim_calls s d _ HD.out).mono ?_
        rintro e w1 ⟨rfl, hb⟩
        have B1 := Lib.hid (Below.trans (Below.refl _ _) (hb.mono (by first | omega | (simp only [szA, szS, szD, World.heap_drewN] at * <;> omega))) : Below w.heap.size w w1)
        have Z1 := hb.size
        have N1 : w.heap.size ≤ w1.heap.size := (by first | with_reducible exact Z1 | (simp only [szA, szS, szD] at Z1; omega))
        clear Z1
        clear hb
        have S1 : w.heap.size ≤ w1.heap.size := (by omega)
        go_wp2_with (fail)
        refine (atoiBad_calls s _ h18 HA.out (HS.out.below B1.out)).mono ?_
        rintro e w2 ⟨tt, tv, rfl, hb⟩
        have B2 := Lib.hid (Below.trans B1.out (hb.mono (by first | omega | (simp only [szA, szS, szD, World.heap_drewN] at * <;> omega))) : Below w.heap.size w w2)
        have Z2 := hb.size
        have N2 : w1.heap.size ≤ w2.heap.size := (by first | with_reducible exact Z2 | (simp only [szA, szS, szD] at Z2; omega))
        clear Z2
        clear hb
        have S2 : w.heap.size ≤ w2.heap.size := (by omega)
        go_wp2
        go_ret2
        exact ⟨by rw [HN.out]; rfl, B2.out⟩
      · have HA := Lib.hid ha; clear ha
        obtain ⟨q1, q2⟩ := (atoi_S17 HA.out (by have := HDL.out; omega)).inB
        have HI := Lib.hid (show InB n from ⟨q1, q2⟩); clear q1 q2
        obtain ⟨i, hi⟩ : ∃ i, itoaB n = i := ⟨_, rfl⟩
        have HIT := Lib.hid hi; clear hi
        by_cases he : i = s
        · obtain rfl : s = i := he.symm
          have HN := Lib.hid (numI_hit HA.out (by have := HDL.out; omega) HIT.out)
          have q1 : (s.toList == s.toList) = true := beq_self_eq_true _
          go_enter Tryd.func20, Tryd.ntmps20
          go_wp2_with (fail)
          refine (trim_calls s d _ HD.out).mono ?_
          rintro e w1 ⟨rfl, hb⟩
          have B1 := Lib.hid (Below.trans (Below.refl _ _) (hb.mono (by first | omega | (simp only [szA, szS, szD, World.heap_drewN] at * <;> omega))) : Below w.heap.size w w1)
          have Z1 := hb.size
          have N1 : w.heap.size ≤ w1.heap.size := (by first | with_reducible exact Z1 | (simp only [szA, szS, szD] at Z1; omega))
          clear Z1
          clear hb
          have S1 : w.heap.size ≤ w1.heap.size := (by omega)
          go_wp2_with (fail)
          refine (atoiOk_calls s n _ h18 HA.out).mono ?_
          rintro e w2 ⟨rfl, hb⟩
          have B2 := Lib.hid (Below.trans B1.out (hb.mono (by first | omega | (simp only [szA, szS, szD, World.heap_drewN] at * <;> omega))) : Below w.heap.size w w2)
          have Z2 := hb.size
          have N2 : w1.heap.size ≤ w2.heap.size := (by first | with_reducible exact Z2 | (simp only [szA, szS, szD] at Z2; omega))
          clear Z2
          clear hb
          have S2 : w.heap.size ≤ w2.heap.size := (by omega)
          go_wp2_with (fail)
          refine (ItoaI_calls n _ (HP.out.below B2.out) HI.out).mono ?_
          rw [HIT.out]
          rintro e w3 ⟨rfl, hb⟩
          have B3 := Lib.hid (Below.trans B2.out (hb.mono (by first | omega | (simp only [szA, szS, szD, World.heap_drewN] at * <;> omega))) : Below w.heap.size w w3)
          have Z3 := hb.size
          have N3 : w2.heap.size ≤ w3.heap.size := (by first | with_reducible exact Z3 | (simp only [szA, szS, szD] at Z3; omega))
          clear Z3
          clear hb
          have S3 : w.heap.size ≤ w3.heap.size := (by omega)
          go_wp2
          go_ret2
          exact ⟨by rw [HN.out]; rfl, B3.out⟩
        · have q1 := str_ne he
          have HN := Lib.hid (numI_other HA.out (by rw [HIT.out]; exact he)); clear he
          go_enter Tryd.func20, Tryd.ntmps20
          go_wp2_with (fail)
          refine (trim_calls s d _ HD.out).mono ?_
          rintro e w1 ⟨rfl, hb⟩
          have B1 := Lib.hid (Below.trans (Below.refl _ _) (hb.mono (by first | omega | (simp only [szA, szS, szD, World.heap_drewN] at * <;> omega))) : Below w.heap.size w w1)
          have Z1 := hb.size
          have N1 : w.heap.size ≤ w1.heap.size := (by first | with_reducible exact Z1 | (simp only [szA, szS, szD] at Z1; omega))
          clear Z1
          clear hb
          have S1 : w.heap.size ≤ w1.heap.size := (by omega)
          go_wp2_with (fail)
          refine (atoiOk_calls s n _ h18 HA.out).mono ?_
          rintro e w2 ⟨rfl, hb⟩
          have B2 := Lib.hid (Below.trans B1.out (hb.mono (by first | omega | (simp only [szA, szS, szD, World.heap_drewN] at * <;> omega))) : Below w.heap.size w w2)
          have Z2 := hb.size
          have N2 : w1.heap.size ≤ w2.heap.size := (by first | with_reducible exact Z2 | (simp only [szA, szS, szD] at Z2; omega))
          clear Z2
          clear hb
          have S2 : w.heap.size ≤ w2.heap.size := (by omega)
          go_wp2_with (fail)
          refine (ItoaI_calls n _ (HP.out.below B2.out) HI.out).mono ?_
          rw [HIT.out]
          rintro e w3 ⟨rfl, hb⟩
          have B3 := Lib.hid (Below.trans B2.out (hb.mono (by first | omega | (simp only [szA, szS, szD, World.heap_drewN] at * <;> omega))) : Below w.heap.size w w3)
          have Z3 := hb.size
          have N3 : w2.heap.size ≤ w3.heap.size := (by first | with_reducible exact Z3 | (simp only [szA, szS, szD] at Z3; omega))
          clear Z3
          clear hb
          have S3 : w.heap.size ≤ w3.heap.size := (by omega)
          go_wp2
          go_ret2
          exact ⟨by rw [HN.out]; rfl, B3.out⟩
end Go.Proofs.YthbnbofoefdneaaDoor
