/- FnWriterAlone: the law's walk (made by gen_lockdraws.py). -/
import Derived.Test.YtbnfhnfnbhigoaaDrawsLock
import Derived.Test.YtbnfhnfnbhigoaaLawLock
import Derived.Test.YtbnfhnfnbhigoaaLockValid
import Derived.Test.YtbnfhnfnbhigoaaBytes
namespace Go.Proofs.Ytbnfhnfnbhigoaa
open Go.RowKit
set_option linter.unusedSimpArgs false
set_option linter.unusedVariables false
set_option maxHeartbeats 8000000 in
theorem FnWriterAlone_calls (v : Value) (bs : List Int) (w : World) (h : Row 1 encB w v bs) (hbs : ∀ x ∈ bs, 0 ≤ x ∧ x ≤ 255) :
    Calls Try.prog 6 #[v] w fun e w' => e = .returned (.bool true) ∧ Below w.heap.size w w' := by
  have HB := Lib.hid hbs; clear hbs
  have H0 := Lib.hid h
  obtain ⟨a, c, rfl, l1, l2, l3⟩ := h
  clear l3
  by_cases hl : bs.length ≤ 1048576
  · go_enter Try.func6, Try.ntmps6
    go_wp2_with (fail)
    refine (DrawHoldsLock_calls _ bs _ (Row.below H0.out (Below.refl _ _)) HB.out).mono ?_
    rintro e w1 ⟨vs, cs, y0, rfl, ho_s, hfs, hb⟩
    have B1 := Lib.hid (Below.trans (Below.refl _ _) (hb.mono (by first | omega | (simp only [szA, szS, szD, World.heap_drewN] at * <;> omega))) : Below w.heap.size w w1)
    have Z1 := hb.size
    have N1 : w.heap.size ≤ w1.heap.size := (by first | with_reducible exact Z1 | (simp only [szA, szS, szD] at Z1; omega))
    clear Z1
    have Os_1 := Lib.hid (ho_s.mono (lo' := w.heap.size) (by first | omega | (simp only [szA, szS, szD, World.heap_drewN] at * <;> omega)) (Nat.le_refl _)); obtain ⟨as0, ps0, as2, ps2, rfl, hx_s⟩ := ho_s; clear hx_s
    clear hb
    have S1 : w.heap.size ≤ w1.heap.size := (by omega)
    have HN := Lib.hid (show cs.readers.length + cs.q.length ≤ 1048576 by unfold LockFew at hfs; omega); clear hfs
    go_wp2_with (fail)
    refine (HoldsLock_calls _ cs y0 _ ((Os_1.out.alloc _).row) HN.out).mono ?_
    rintro e w2 ⟨rfl, hb⟩
    have B2 := Lib.hid (Below.trans (Below.alloc B1.out (by first | omega | (simp only [szA, szS, szD, World.heap_drewN] at * <;> omega)) _) (hb.mono (by first | omega | (simp only [szA, szS, szD, World.heap_drewN] at * <;> omega))) : Below w.heap.size w w2)
    have Z2 := hb.size
    have N2 : w1.heap.size + 1 ≤ w2.heap.size := (by first | with_reducible exact Z2 | (simp only [szA, szS, szD] at Z2; omega))
    clear Z2
    have Xs_2 : Hid (w2.heap[w1.heap.size]? = some (.cells #[.slice as0 cs.readers.length ps0, .int .i64 cs.writer, .slice as2 cs.q.length ps2] 30 (0, 0))) := below_at hb (heap_at' (n := w1.heap.size) (by first | omega | (simp only [szA, szS, szD, World.heap_drewN] at * <;> omega)))
    have Os_2 := Lib.hid ((Os_1.out.alloc _).kept hb)
    clear hb
    obtain ⟨cs2_0, cs2_1, cs2_2, fs2_0, fs2_1, fs2_2⟩ := box3 Xs_2.out; have ls2 := heap_lt Xs_2.out
    have S2 : w.heap.size ≤ w2.heap.size := (by omega)
    go_wp2_with (fail)
    refine (sHoldsLock_calls _ cs y0 _ (Os_2.out.row) HN.out).mono ?_
    rintro e w3 ⟨rfl, hb⟩
    have B3 := Lib.hid (Below.trans B2.out (hb.mono (by first | omega | (simp only [szA, szS, szD, World.heap_drewN] at * <;> omega))) : Below w.heap.size w w3)
    have Z3 := hb.size
    have N3 : w2.heap.size ≤ w3.heap.size := (by first | with_reducible exact Z3 | (simp only [szA, szS, szD] at Z3; omega))
    clear Z3
    have Xs_3 := Lib.hid (below_at hb Xs_2.out)
    have Os_3 := Lib.hid (Os_2.out.kept hb)
    clear hb
    obtain ⟨cs3_0, cs3_1, cs3_2, fs3_0, fs3_1, fs3_2⟩ := box3 Xs_3.out; have ls3 := heap_lt Xs_3.out
    have S3 : w.heap.size ≤ w3.heap.size := (by omega)
    clear cs2_0 cs2_1 cs2_2 fs2_0 fs2_1 fs2_2
    go_wp2_with (fail)
    refine (LockValid_calls _ cs _ (Os_3.out.row) HN.out).mono ?_
    rintro e w4 ⟨rfl, hb⟩
    have B4 := Lib.hid (Below.trans B3.out (hb.mono (by first | omega | (simp only [szA, szS, szD, World.heap_drewN] at * <;> omega))) : Below w.heap.size w w4)
    have Z4 := hb.size
    have N4 : w3.heap.size ≤ w4.heap.size := (by first | with_reducible exact Z4 | (simp only [szA, szS, szD] at Z4; omega))
    clear Z4
    have Xs_4 := Lib.hid (below_at hb Xs_3.out)
    have Os_4 := Lib.hid (Os_3.out.kept hb)
    clear hb
    obtain ⟨cs4_0, cs4_1, cs4_2, fs4_0, fs4_1, fs4_2⟩ := box3 Xs_4.out; have ls4 := heap_lt Xs_4.out
    have S4 : w.heap.size ≤ w4.heap.size := (by omega)
    clear cs3_0 cs3_1 cs3_2 fs3_0 fs3_1 fs3_2
    cases hv : lockB cs
    · have HV := Lib.hid hv; have hz : holdsB cs y0 = false := by simp [holdsB, hv]
      rw [hz]
      have HZ := Lib.hid hz; clear hz hv
      go_wp2_with (fail)
      refine (sHoldsLock_calls _ cs y0 _ (Os_4.out.row) HN.out).mono ?_
      rw [HZ.out]
      rintro e w5 ⟨rfl, hb⟩
      have B5 := Lib.hid (Below.trans B4.out (hb.mono (by first | omega | (simp only [szA, szS, szD, World.heap_drewN] at * <;> omega))) : Below w.heap.size w w5)
      have Z5 := hb.size
      have N5 : w4.heap.size ≤ w5.heap.size := (by first | with_reducible exact Z5 | (simp only [szA, szS, szD] at Z5; omega))
      clear Z5
      have Xs_5 := Lib.hid (below_at hb Xs_4.out)
      have Os_5 := Lib.hid (Os_4.out.kept hb)
      clear hb
      obtain ⟨cs5_0, cs5_1, cs5_2, fs5_0, fs5_1, fs5_2⟩ := box3 Xs_5.out; have ls5 := heap_lt Xs_5.out
      have S5 : w.heap.size ≤ w5.heap.size := (by omega)
      clear cs4_0 cs4_1 cs4_2 fs4_0 fs4_1 fs4_2
      go_wp2_with (fail)
      go_ret
      exact ⟨rfl, B5.out⟩
    · have HV := Lib.hid hv; clear hv
      go_wp2_with (fail)
      go_loopw [6, 7] (fun n v wr => ∃ k : Nat, k ≤ 6 ∧ v = .int .i64 k ∧ n = .int .i64 (cntB cs k : Nat) ∧ wr.heap[w1.heap.size]? = some (.cells #[.slice as0 cs.readers.length ps0, .int .i64 cs.writer, .slice as2 cs.q.length ps2] 30 (0, 0)) ∧ LockOwn w.heap.size wr.heap.size wr (.agg #[.slice as0 cs.readers.length ps0, .int .i64 cs.writer, .slice as2 cs.q.length ps2]) cs ∧ Below w.heap.size w wr) (fun _ v _ => 6 - (intOf v).toNat)
      case atStart => exact ⟨0, by omega, rfl, rfl, Xs_4.out, Os_4.out.tight, B4.out⟩
      case round =>
        obtain ⟨w20, rfl⟩ : ∃ x : World, x = wr := ⟨_, rfl⟩
        obtain ⟨k, hk, rfl, rfl, hx, ho, hb⟩ := hrel
        have Xs_20 := Lib.hid hx; have Os_20 := Lib.hid ho; have B20 := Lib.hid hb; have S20 := hb.size; clear hx ho hb
        have hcl := cntB_le cs k
        obtain ⟨cs20_0, cs20_1, cs20_2, fs20_0, fs20_1, fs20_2⟩ := box3 Xs_20.out; have ls20 := heap_lt Xs_20.out
        by_cases hk6 : k < 6
        · have HE := Lib.hid (holdsB_at HV.out hk6)
          have HS := Lib.hid (cntB_succ cs k)
          have hwr : IntKind.i64.wrap (((cntB cs k : Nat) : Int) + 1) = ((cntB cs k : Nat) : Int) + 1 := IntWalk.i64_in _ (by omega)
          cases hh : hasB cs (k : Int)
          · have HH := Lib.hid hh; clear hh
            go_wp2_with (fail)
            refine (HoldsLock_calls _ cs (k : Int) _ (Os_20.out.row) HN.out).mono ?_
            rw [HE.out, HH.out]
            rintro e w21 ⟨rfl, hb⟩
            have B21 := Lib.hid (Below.trans B20.out (hb.mono (by first | omega | (simp only [szA, szS, szD, World.heap_drewN] at * <;> omega))) : Below w.heap.size w w21)
            have Z21 := hb.size
            have N21 : w20.heap.size ≤ w21.heap.size := (by first | with_reducible exact Z21 | (simp only [szA, szS, szD] at Z21; omega))
            clear Z21
            have Xs_21 := Lib.hid (below_at hb Xs_20.out)
            have Os_21 := Lib.hid (Os_20.out.kept hb)
            clear hb
            obtain ⟨cs21_0, cs21_1, cs21_2, fs21_0, fs21_1, fs21_2⟩ := box3 Xs_21.out; have ls21 := heap_lt Xs_21.out
            have S21 : w.heap.size ≤ w21.heap.size := (by omega)
            go_wp2
            go_roundw
            case rel => exact ⟨k + 1, by omega, by go_num, by rw [HS.out, HH.out]; first | rfl | go_num | (simp; done) | (simp; omega), Xs_21.out, Os_21.out.tight, B21.out⟩
            case measure => simp [intOf]; omega
          · have HH := Lib.hid hh; clear hh
            go_wp2_with (fail)
            refine (HoldsLock_calls _ cs (k : Int) _ (Os_20.out.row) HN.out).mono ?_
            rw [HE.out, HH.out]
            rintro e w21 ⟨rfl, hb⟩
            have B21 := Lib.hid (Below.trans B20.out (hb.mono (by first | omega | (simp only [szA, szS, szD, World.heap_drewN] at * <;> omega))) : Below w.heap.size w w21)
            have Z21 := hb.size
            have N21 : w20.heap.size ≤ w21.heap.size := (by first | with_reducible exact Z21 | (simp only [szA, szS, szD] at Z21; omega))
            clear Z21
            have Xs_21 := Lib.hid (below_at hb Xs_20.out)
            have Os_21 := Lib.hid (Os_20.out.kept hb)
            clear hb
            obtain ⟨cs21_0, cs21_1, cs21_2, fs21_0, fs21_1, fs21_2⟩ := box3 Xs_21.out; have ls21 := heap_lt Xs_21.out
            have S21 : w.heap.size ≤ w21.heap.size := (by omega)
            go_wp2
            go_roundw
            case rel => exact ⟨k + 1, by omega, by go_num, by rw [HS.out, HH.out]; first | rfl | go_num | (simp; done) | (simp; omega), Xs_21.out, Os_21.out.tight, B21.out⟩
            case measure => simp [intOf]; omega
        · obtain rfl : k = 6 := by omega
          by_cases hw : cs.writer = -1
          · have hc := lock_readers HV.out hw
            have d1 : (cs.writer == -1) = true := beq_iff_eq.2 hw
            have d2 : ((cntB cs 6 : Nat) : Int) = (cs.readers.length : Int) := by omega
            rw [d2]
            have d3 : (cs.writer != -1) = false := by simp [hw]
            clear hw d2 hc
            go_wp2
            go_ret
            exact ⟨rfl, B20.out⟩
          · obtain ⟨hc, hh⟩ := lock_writer HV.out hw
            have HH := Lib.hid hh; clear hh
            rw [hc]
            have d1 : (cs.writer == -1) = false := beq_eq_false_iff_ne.2 hw
            have d3 : (cs.writer != -1) = true := by simp [hw]
            clear hc hcl
            go_wp2_with (fail)
            refine (HoldsLock_calls _ cs cs.writer _ (Os_20.out.row) HN.out).mono ?_
            rw [HH.out]
            rintro e w21 ⟨rfl, hb⟩
            have B21 := Lib.hid (Below.trans B20.out (hb.mono (by first | omega | (simp only [szA, szS, szD, World.heap_drewN] at * <;> omega))) : Below w.heap.size w w21)
            have Z21 := hb.size
            have N21 : w20.heap.size ≤ w21.heap.size := (by first | with_reducible exact Z21 | (simp only [szA, szS, szD] at Z21; omega))
            clear Z21
            have Xs_21 := Lib.hid (below_at hb Xs_20.out)
            have Os_21 := Lib.hid (Os_20.out.kept hb)
            clear hb
            obtain ⟨cs21_0, cs21_1, cs21_2, fs21_0, fs21_1, fs21_2⟩ := box3 Xs_21.out; have ls21 := heap_lt Xs_21.out
            have S21 : w.heap.size ≤ w21.heap.size := (by omega)
            go_wp2_with (fail)
            go_ret
            exact ⟨rfl, B21.out⟩

  · go_enter Try.func6, Try.ntmps6
    go_wp2
    go_ret
    exact ⟨rfl, Below.refl _ _⟩
end Go.Proofs.Ytbnfhnfnbhigoaa
