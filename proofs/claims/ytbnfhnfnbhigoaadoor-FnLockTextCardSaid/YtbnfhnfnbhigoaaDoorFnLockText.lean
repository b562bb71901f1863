/- FnLockText: the law's walk (made by gen_semlaws.py). -/
import Derived.Test.YtbnfhnfnbhigoaaDoorDrawFmtLock
import Derived.Test.YtbnfhnfnbhigoaaDoorFmtLockI
import Derived.Test.YtbnfhnfnbhigoaaDoorFmtLockS
import Derived.Test.YtbnfhnfnbhigoaaDoorLawFmtLock
import Derived.Test.YtbnfhnfnbhigoaaDoorBytes
namespace Go.Proofs.YtbnfhnfnbhigoaaDoor
open Go.RowKit
set_option linter.unusedSimpArgs false
set_option linter.unusedVariables false
set_option maxHeartbeats 8000000 in
theorem FnLockText_calls (v : Value) (bs : List Int) (w : World) (h : Row 1 encB w v bs) (hbs : ∀ x ∈ bs, 0 ≤ x ∧ x ≤ 255) :
    Calls Tryd.prog 5 #[v] w fun e w' => e = .returned (.bool true) ∧ Below w.heap.size w w' := by
  have HB := Lib.hid hbs; clear hbs
  have H0 := Lib.hid h
  obtain ⟨a, c, rfl, l1, l2, l3⟩ := h
  clear l3
  by_cases hl : bs.length ≤ 1048576
  · go_enter Tryd.func5, Tryd.ntmps5
    go_wp2_with (fail)
    refine (DrawFormatLock_calls _ bs _ (Row.below H0.out (Below.refl _ _)) HB.out).mono ?_
    rintro e w1 ⟨vs, cs, rfl, ho_s, hfs, hb⟩
    have B1 := Lib.hid (Below.trans (Below.refl _ _) (hb.mono (by first | omega | (simp only [szA, szS, szD, World.heap_drewN] at * <;> omega))) : Below w.heap.size w w1)
    have Z1 := hb.size
    have N1 : w.heap.size ≤ w1.heap.size := (by first | with_reducible exact Z1 | (simp only [szA, szS, szD] at Z1; omega))
    clear Z1
    have Os_1 := Lib.hid (ho_s.mono (lo' := w.heap.size) (by first | omega | (simp only [szA, szS, szD, World.heap_drewN] at * <;> omega)) (Nat.le_refl _)); obtain ⟨as0, ps0, as2, ps2, rfl, hx_s⟩ := ho_s; clear hx_s
    clear hb
    have S1 : w.heap.size ≤ w1.heap.size := (by omega)
    have HN := Lib.hid (show cs.readers.length + cs.q.length ≤ 1048576 by unfold LockFew at hfs; omega); clear hfs
    obtain ⟨s, hs⟩ : ∃ s, fmtL cs = s := ⟨_, rfl⟩
    have HS := Lib.hid hs; clear hs
    go_wp2_with (fail)
    refine (FormatLock_calls _ cs _ ((Os_1.out.alloc _).row) HN.out).mono ?_
    rw [HS.out]
    rintro e w2 ⟨rfl, hb⟩
    have B2 := Lib.hid (Below.trans (Below.alloc B1.out (by first | omega | (simp only [szA, szS, szD, World.heap_drewN] at * <;> omega)) _) (hb.mono (by first | omega | (simp only [szA, szS, szD, World.heap_drewN] at * <;> omega))) : Below w.heap.size w w2)
    have Z2 := hb.size
    have N2 : w1.heap.size + 1 ≤ w2.heap.size := (by first | with_reducible exact Z2 | (simp only [szA, szS, szD] at Z2; omega))
    clear Z2
    have Xs_2 : Hid (w2.heap[w1.heap.size]? = some (.cells #[.slice as0 cs.readers.length ps0, .int .i64 cs.writer, .slice as2 cs.q.length ps2] 30 (0, 0))) := below_at hb (heap_at' (n := w1.heap.size) (by first | omega | (simp only [szA, szS, szD, World.heap_drewN] at * <;> omega)))
    have Os_2 := Lib.hid ((Os_1.out.alloc _).kept hb)
    clear hb
    obtain ⟨cs2_0, cs2_1, cs2_2, fs2_0, fs2_1, fs2_2⟩ := box3 Xs_2.out; have ls2 := heap_lt Xs_2.out
    have S2 : w.heap.size ≤ w2.heap.size := (by omega)
    go_wp2_with (fail)
    refine (sFormatLock_calls _ cs _ (Os_2.out.row) HN.out).mono ?_
    rw [HS.out]
    rintro e w3 ⟨rfl, hb⟩
    have B3 := Lib.hid (Below.trans B2.out (hb.mono (by first | omega | (simp only [szA, szS, szD, World.heap_drewN] at * <;> omega))) : Below w.heap.size w w3)
    have Z3 := hb.size
    have N3 : w2.heap.size ≤ w3.heap.size := (by first | with_reducible exact Z3 | (simp only [szA, szS, szD] at Z3; omega))
    clear Z3
    have Xs_3 := Lib.hid (below_at hb Xs_2.out)
    have Os_3 := Lib.hid (Os_2.out.kept hb)
    clear hb
    obtain ⟨cs3_0, cs3_1, cs3_2, fs3_0, fs3_1, fs3_2⟩ := box3 Xs_3.out; have ls3 := heap_lt Xs_3.out
    have S3 : w.heap.size ≤ w3.heap.size := (by omega)
    clear cs2_0 cs2_1 cs2_2 fs2_0 fs2_1 fs2_2
    cases hv : lockB cs
    · have he := fmt_bad hv
      rw [HS.out] at he
      subst he
      clear hv
      go_wp2_with (fail)
      refine (sFormatLock_calls _ cs _ (Os_3.out.row) HN.out).mono ?_
      rw [HS.out]
      rintro e w4 ⟨rfl, hb⟩
      have B4 := Lib.hid (Below.trans B3.out (hb.mono (by first | omega | (simp only [szA, szS, szD, World.heap_drewN] at * <;> omega))) : Below w.heap.size w w4)
      have Z4 := hb.size
      have N4 : w3.heap.size ≤ w4.heap.size := (by first | with_reducible exact Z4 | (simp only [szA, szS, szD] at Z4; omega))
      clear Z4
      have Xs_4 := Lib.hid (below_at hb Xs_3.out)
      have Os_4 := Lib.hid (Os_3.out.kept hb)
      clear hb
      obtain ⟨cs4_0, cs4_1, cs4_2, fs4_0, fs4_1, fs4_2⟩ := box3 Xs_4.out; have ls4 := heap_lt Xs_4.out
      have S4 : w.heap.size ≤ w4.heap.size := (by omega)
      clear cs3_0 cs3_1 cs3_2 fs3_0 fs3_1 fs3_2
      go_wp2_with (fail)
      go_ret
      exact ⟨rfl, B4.out⟩
    · obtain ⟨z, _, hcnt, hsz, h40⟩ := fmt_text hv
      obtain ⟨c, r, hcr, hcw⟩ := fmt_good hv
      rw [HS.out] at hcnt hsz h40 hcr
      have HC := Lib.hid hcnt; clear hcnt hsz hv
      have hpos : 0 < s.size := by have := congrArg List.length hcr; simp at this; omega
      have hne : s.toList.isEmpty = false := (by rw [ByteArray.toList_eq, hcr]; rfl)
      have hne2 : ¬ s.toList = [] := (by rw [ByteArray.toList_eq, hcr]; simp)
      have h0 : s[0] = c := get_first hpos hcr
      have HCR := Lib.hid hcr; clear hcr
      have H00 := Lib.hid h0; clear h0
      go_wp2_with (fail)
      go_loopw [5, 6] (fun n v wr => ∃ k : Nat, k ≤ s.size ∧ v = .int .i64 k ∧ n = .int .i64 (cnt (s.data.toList.take k) : Nat) ∧ wr.heap[w1.heap.size]? = some (.cells #[.slice as0 cs.readers.length ps0, .int .i64 cs.writer, .slice as2 cs.q.length ps2] 30 (0, 0)) ∧ Below w.heap.size w wr) (fun _ v _ => s.size - (intOf v).toNat)
      case atStart => exact ⟨0, by omega, rfl, rfl, Xs_3.out, B3.out⟩
      case round =>
        obtain ⟨w20, rfl⟩ : ∃ x : World, x = wr := ⟨_, rfl⟩
        obtain ⟨k, hk, rfl, rfl, hx, hb⟩ := hrel
        have Xs_20 := Lib.hid hx; have B20 := Lib.hid hb; have S20 := hb.size; clear hx hb
        have hcl := cnt_le (s.data.toList.take k)
        rw [List.length_take] at hcl
        obtain ⟨cs20_0, cs20_1, cs20_2, fs20_0, fs20_1, fs20_2⟩ := box3 Xs_20.out; have ls20 := heap_lt Xs_20.out
        by_cases hlt : k < s.size
        · have HT := Lib.hid (take_cnt hlt)
          have hwr : IntKind.i64.wrap ((cnt (s.data.toList.take k) : Nat) + 1 : Int) = (cnt (s.data.toList.take k) : Nat) + 1 := IntWalk.i64_in _ (by omega)
          by_cases hx : s[k].toNat = 32
          · have HX := Lib.hid hx
            have d4 : ((s[k].toNat : Int) == 32) = true := beq_iff_eq.2 (by omega)
            clear hx
            go_wp2
            go_roundw
            case rel => exact ⟨k + 1, by omega, by go_num, by rw [HT.out, if_pos HX.out]; first | rfl | go_num | (simp; done), Xs_20.out, B20.out⟩
            case measure => simp [intOf]; omega
          · have HX := Lib.hid hx
            have d4 : ((s[k].toNat : Int) == 32) = false := beq_eq_false_iff_ne.2 (by omega)
            clear hx
            go_wp2
            go_roundw
            case rel => exact ⟨k + 1, by omega, by go_num, by rw [HT.out, if_neg HX.out]; first | rfl | go_num | (simp; done), Xs_20.out, B20.out⟩
            case measure => simp [intOf]; omega
        · obtain rfl : k = s.size := by omega
          have hfull : cnt (s.data.toList.take s.size) = cs.q.length := by rw [List.take_of_length_le (by simp)]; exact HC.out
          rw [hfull]
          clear hfull hcl
          by_cases hw : cs.writer = -1
          · have d3 : (cs.writer != -1) = false := by simp [hw]
            have d4 : ((s[0].toNat : Int) == 119) = false := beq_eq_false_iff_ne.2 fun e => (hcw.1 (H00.out ▸ UInt8.toNat_inj.1 (show s[0].toNat = (119 : UInt8).toNat by simp at e ⊢; omega))) hw
            have d5 : ((cs.q.length : Int) == (cs.q.length : Int)) = true := beq_self_eq_true _
            clear hw hcw
            go_wp2
            go_quiet (fail)
            go_wp2
            go_ret
            exact ⟨rfl, below_drewN B20.out _⟩
          · have d3 : (cs.writer != -1) = true := by simp [hw]
            have d4 : ((s[0].toNat : Int) == 119) = true := by rw [H00.out, hcw.2 hw]; rfl
            have d5 : ((cs.q.length : Int) == (cs.q.length : Int)) = true := beq_self_eq_true _
            clear hw hcw
            go_wp2
            go_quiet (fail)
            go_wp2
            go_ret
            exact ⟨rfl, below_drewN B20.out _⟩

  · go_enter Tryd.func5, Tryd.ntmps5
    go_wp2
    go_ret
    exact ⟨rfl, Below.refl _ _⟩
end Go.Proofs.YtbnfhnfnbhigoaaDoor
