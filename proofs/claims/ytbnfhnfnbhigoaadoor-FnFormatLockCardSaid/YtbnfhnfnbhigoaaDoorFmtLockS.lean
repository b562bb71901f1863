/- spec.FormatLock: what it returns (made by gen_fmtlock.py). -/
import Derived.Test.YtbnfhnfnbhigoaaDoorFmtLockP
import Derived.Test.YtbnfhnfnbhigoaaDoorLockValidS
namespace Go.Proofs.YtbnfhnfnbhigoaaDoor
open Go.RowKit
set_option linter.unusedSimpArgs false
set_option linter.unusedVariables false
set_option maxRecDepth 100000 in
set_option maxHeartbeats 8000000 in
theorem sFormatLock_calls (v : Value) (l : LockD) (w : World) (h : LockRow w v l) (hn : l.readers.length + l.q.length ≤ 1048576) :
    Calls Tryd.prog 8 #[v] w fun e w' => e = .returned (.string (fmtL l)) ∧ Below w.heap.size w w' := by
  have HR := Lib.hid h
  obtain ⟨a0, p0, a2, p2, rfl, r0, r2⟩ := h
  have HI := Lib.hid r0; have HW := Lib.hid r2; clear r0 r2
  have hm1 : l.readers.length ≤ 9223372036854775807 := by omega
  have hm2 : l.q.length ≤ 9223372036854775807 := by omega
  have X0 := Lib.hid (heap_at w (.cells #[.slice a0 l.readers.length p0, .int .i64 l.writer, .slice a2 l.q.length p2] 30))
  have B0 := Lib.hid ((Below.refl w.heap.size w).alloc (Nat.le_refl _) (.cells #[.slice a0 l.readers.length p0, .int .i64 l.writer, .slice a2 l.q.length p2] 30))
  go_enter Tryd.func8, Tryd.ntmps8
  go_wp2_with (fail)
  refine (sLockValid_calls _ l _ (LockRow.below HR.out B0.out) hn).mono ?_
  rintro e w1 ⟨rfl, hb⟩
  have B1 := Lib.hid (B0.out.trans (hb.mono (by first | omega | (simp only [szA, szS, szD, World.heap_drewN] at * <;> omega)))); have N1 := B1.out.size
  have X1 := Lib.hid (below_at hb X0.out)
  clear hb
  obtain ⟨c1_0, c1_1, c1_2, f1_0, f1_1, f1_2⟩ := box3 X1.out; have lx1 := heap_lt X1.out
  cases hv : lockB l
  · have HV := Lib.hid hv; clear hv
    have HF : Hid (fmtL l = ⟨#[]⟩) := by show _ = _; rw [fmtL, HV.out]; rfl
    go_wp2
    go_ret
    exact ⟨ret_str HF.out.symm, B1.out⟩
  · have HV := Lib.hid hv; clear hv
    have hok := Lib.hid (lockB_true.1 HV.out)
    by_cases hw : l.writer = -1
    · have dw : (l.writer != -1) = false := by simpa using hw
      have HWR := Lib.hid hw; clear hw
      have hs0 : Hid ((⟨#[102, 114, 101, 101]⟩ : ByteArray).size ≤ 12) := by show _ ≤ _; decide
      go_wp2_with (fail)
      go_loopw [3, 4] (fun s i wr => ∃ k : Nat, k ≤ l.readers.length ∧ i = .int .i64 k ∧ s = .string (hText ⟨#[102, 114, 101, 101]⟩ l.readers k) ∧ wr.heap[w.heap.size]? = some (.cells #[.slice a0 l.readers.length p0, .int .i64 l.writer, .slice a2 l.q.length p2] 30 (0, 0)) ∧ Below w.heap.size w wr) (fun _ i _ => l.readers.length - (intOf i).toNat)
      case atStart => exact ⟨0, Nat.zero_le _, rfl, rfl, X1.out, B1.out⟩
      case round =>
        obtain ⟨w20, rfl⟩ : ∃ x : World, x = wr := ⟨_, rfl⟩
        obtain ⟨k, hk, rfl, rfl, hx, hb⟩ := hrel
        have B20 := Lib.hid hb; have S20 := hb.size; have X20 := Lib.hid hx; clear hb hx
        obtain ⟨c20_0, c20_1, c20_2, f20_0, f20_1, f20_2⟩ := box3 X20.out; have lx20 := heap_lt X20.out
        by_cases hlt : k < l.readers.length
        · have d0 : decide ((k : Int) < (l.readers.length : Int)) = true := decide_eq_true (by omega)
          obtain ⟨_, _, e1, _, _, r0⟩ := (IRow.below HI.out B20.out).look; injection e1 with e1 _ e2; subst e1 e2
          obtain ⟨b, o, rfl, hb1, hc1⟩ := r0 (by omega)
          obtain ⟨r, hr⟩ := get_ex hlt
          have k1 := hc1 k r hr
          have ht := Lib.hid (hok.out.thr_r hr)
          have HT := Lib.hid (rText_succ hr)
          clear hc1 r0 hr
          rcases Nat.eq_zero_or_pos k with hk0 | hk0
          · subst hk0
            rw [Nat.add_zero] at k1
            go_wp2_with (fail)
            refine (l13Dec_calls r _ ht.out).mono ?_
            rintro e w21 ⟨rfl, hb⟩
            have B21 := Lib.hid (Below.trans B20.out (hb.mono (by first | omega | (simp only [szA, szS, szD, World.heap_drewN] at * <;> omega))) : Below w.heap.size w w21)
            have N21 : w20.heap.size ≤ w21.heap.size := hb.size
            have X21 := Lib.hid (below_at hb X20.out)
            clear hb
            obtain ⟨c21_0, c21_1, c21_2, f21_0, f21_1, f21_2⟩ := box3 X21.out; have lx21 := heap_lt X21.out
            obtain ⟨d, hd⟩ : ∃ d, dig r = d := ⟨_, rfl⟩
            have hds : d.size = 1 := by rw [← hd]; exact dig_size r
            rw [hd]
            have HD := Lib.hid hd; clear hd
            go_wp2
            go_roundw
            case rel => exact ⟨1, by omega, by go_num, by have h := HT.out; simp only [Nat.zero_add, List.take_zero] at h; simp only [hText]; rw [if_neg (by decide), h, rStep, HD.out]; rfl, X21.out, B21.out⟩
            case measure => simp [intOf]; omega
          · have d1 : ((k : Int) == 0) = false := by simp; omega
            obtain ⟨s, hs⟩ : ∃ s, hText ⟨#[102, 114, 101, 101]⟩ l.readers k = s := ⟨_, rfl⟩
            have hss : s.size ≤ 12 := by rw [← hs]; exact hText_size _ _ _ hs0.out hok.out.small.1
            rw [hs]
            have hs2 : rText (l.readers.take k) = s := by rw [← hs, hText, if_neg (by omega)]
            have HS := Lib.hid hs2; clear hs hs2
            go_wp2_with (fail)
            refine (l13Dec_calls r _ ht.out).mono ?_
            rintro e w21 ⟨rfl, hb⟩
            have B21 := Lib.hid (Below.trans B20.out (hb.mono (by first | omega | (simp only [szA, szS, szD, World.heap_drewN] at * <;> omega))) : Below w.heap.size w w21)
            have N21 : w20.heap.size ≤ w21.heap.size := hb.size
            have X21 := Lib.hid (below_at hb X20.out)
            clear hb
            obtain ⟨c21_0, c21_1, c21_2, f21_0, f21_1, f21_2⟩ := box3 X21.out; have lx21 := heap_lt X21.out
            obtain ⟨d, hd⟩ : ∃ d, dig r = d := ⟨_, rfl⟩
            have hds : d.size = 1 := by rw [← hd]; exact dig_size r
            rw [hd]
            have HD := Lib.hid hd; clear hd
            go_wp2
            go_roundw
            case rel => exact ⟨k + 1, by omega, by go_num, by simp only [hText]; rw [if_neg (by omega), HT.out, rStep, HD.out, HS.out], X21.out, B21.out⟩
            case measure => simp [intOf]; omega
        · have d0 : decide ((k : Int) < (l.readers.length : Int)) = false := decide_eq_false (by omega)
          obtain rfl : k = l.readers.length := by omega
          obtain ⟨s1, hs1⟩ : ∃ s, hText ⟨#[102, 114, 101, 101]⟩ l.readers l.readers.length = s := ⟨_, rfl⟩
          have HS1 : Hid (headText l = s1) := by show _ = _; rw [← hs1]; unfold headText hText; rw [if_pos HWR.out, take_all (Nat.le_refl _)]
          have hss : s1.size ≤ 12 := by rw [← hs1]; exact hText_size _ _ _ hs0.out hok.out.small.1
          rw [hs1]
          clear hs1
          go_wp2_with (fail)
          go_loopw [3, 5] (fun s i wr => ∃ k : Nat, k ≤ l.q.length ∧ i = .int .i64 k ∧ s = .string (qText s1 (l.q.take k)) ∧ wr.heap[w.heap.size]? = some (.cells #[.slice a0 l.readers.length p0, .int .i64 l.writer, .slice a2 l.q.length p2] 30 (0, 0)) ∧ Below w.heap.size w wr) (fun _ i _ => l.q.length - (intOf i).toNat)
          case atStart => exact ⟨0, Nat.zero_le _, rfl, rfl, X20.out, B20.out⟩
          case round =>
            obtain ⟨w30, rfl⟩ : ∃ x : World, x = wr := ⟨_, rfl⟩
            obtain ⟨k, hk, rfl, rfl, hx, hb⟩ := hrel
            have B30 := Lib.hid hb; have S30 := hb.size; have X30 := Lib.hid hx; clear hb hx
            obtain ⟨c30_0, c30_1, c30_2, f30_0, f30_1, f30_2⟩ := box3 X30.out; have lx30 := heap_lt X30.out
            by_cases hlt : k < l.q.length
            · have d0 : decide ((k : Int) < (l.q.length : Int)) = true := decide_eq_true (by omega)
              obtain ⟨_, _, e1, _, _, r0⟩ := WRow.look (Row.below HW.out B30.out); injection e1 with e1 _ e2; subst e1 e2
              obtain ⟨b, o, rfl, hb1, hc1⟩ := r0 (by omega)
              obtain ⟨x, hr⟩ := get_ex hlt
              obtain ⟨k1, k2⟩ := hc1 k x hr
              have ht := Lib.hid (hok.out.thr_q hr)
              have HT := Lib.hid (qText_succ s1 hr)
              clear hc1 r0 hr
              obtain ⟨t, wb⟩ := x
              dsimp only at k1 k2 ht
              obtain ⟨s, hs⟩ : ∃ s, qText s1 (l.q.take k) = s := ⟨_, rfl⟩
              have hss2 : s.size ≤ 40 := by rw [← hs, qText_size, List.length_take]; have := hok.out.small; omega
              rw [hs] at HT ⊢
              clear hs
              cases wb
              · go_wp2_with (fail)
                refine (l13Dec_calls t _ ht.out).mono ?_
                rintro e w31 ⟨rfl, hb⟩
                have B31 := Lib.hid (Below.trans B30.out (hb.mono (by first | omega | (simp only [szA, szS, szD, World.heap_drewN] at * <;> omega))) : Below w.heap.size w w31)
                have N31 : w30.heap.size ≤ w31.heap.size := hb.size
                have X31 := Lib.hid (below_at hb X30.out)
                clear hb
                obtain ⟨c31_0, c31_1, c31_2, f31_0, f31_1, f31_2⟩ := box3 X31.out; have lx31 := heap_lt X31.out
                obtain ⟨d, hd⟩ : ∃ d, dig t = d := ⟨_, rfl⟩
                have hds : d.size = 1 := by rw [← hd]; exact dig_size t
                rw [hd]
                have HD := Lib.hid hd; clear hd
                go_wp2
                go_roundw
                case rel => exact ⟨k + 1, by omega, by go_num, by rw [HT.out, qStep, HD.out]; rfl, X31.out, B31.out⟩
                case measure => simp [intOf]; omega
              · go_wp2_with (fail)
                refine (l13Dec_calls t _ ht.out).mono ?_
                rintro e w31 ⟨rfl, hb⟩
                have B31 := Lib.hid (Below.trans B30.out (hb.mono (by first | omega | (simp only [szA, szS, szD, World.heap_drewN] at * <;> omega))) : Below w.heap.size w w31)
                have N31 : w30.heap.size ≤ w31.heap.size := hb.size
                have X31 := Lib.hid (below_at hb X30.out)
                clear hb
                obtain ⟨c31_0, c31_1, c31_2, f31_0, f31_1, f31_2⟩ := box3 X31.out; have lx31 := heap_lt X31.out
                obtain ⟨d, hd⟩ : ∃ d, dig t = d := ⟨_, rfl⟩
                have hds : d.size = 1 := by rw [← hd]; exact dig_size t
                rw [hd]
                have HD := Lib.hid hd; clear hd
                go_wp2
                go_roundw
                case rel => exact ⟨k + 1, by omega, by go_num, by rw [HT.out, qStep, HD.out]; rfl, X31.out, B31.out⟩
                case measure => simp [intOf]; omega
            · have d0 : decide ((k : Int) < (l.q.length : Int)) = false := decide_eq_false (by omega)
              obtain rfl : k = l.q.length := by omega
              have HF : Hid (qText s1 (l.q.take l.q.length) = fmtL l) := by show _ = _; rw [fmtL, HV.out, HS1.out, take_all (Nat.le_refl _)]; rfl
              go_wp2
              go_ret
              exact ⟨ret_str HF.out, B30.out⟩
    · have dw : (l.writer != -1) = true := by simpa using hw
      have HWR := Lib.hid hw
      have hthr := Lib.hid (hok.out.thr_w hw)
      have hr0 : l.readers.length = 0 := hok.out.2.1.resolve_left hw
      clear hw
      go_wp2_with (fail)
      refine (l13Dec_calls l.writer _ hthr.out).mono ?_
      rintro e w2 ⟨rfl, hb⟩
      have B2 := Lib.hid (Below.trans B1.out (hb.mono (by first | omega | (simp only [szA, szS, szD, World.heap_drewN] at * <;> omega))) : Below w.heap.size w w2)
      have N2 : w1.heap.size ≤ w2.heap.size := hb.size
      have X2 := Lib.hid (below_at hb X1.out)
      clear hb
      obtain ⟨c2_0, c2_1, c2_2, f2_0, f2_1, f2_2⟩ := box3 X2.out; have lx2 := heap_lt X2.out
      obtain ⟨s0, hs⟩ : ∃ s, (⟨#[119]⟩ : ByteArray) ++ dig l.writer = s := ⟨_, rfl⟩
      have hs0 : Hid (s0.size ≤ 12) := by show _ ≤ _; rw [← hs]; simp [ByteArray.size_append, dig_size]; decide
      have hss0 : (dig l.writer).size = 1 := dig_size _
      have E0 : ∀ w : World, (Op.stringOp .add (⟨#[119]⟩ : ByteArray) (dig l.writer)).run Tryd.prog w = .ok (.string s0) w := fun w => by rw [run_string_add_sum w _ _ (by rw [dig_size]; decide), hs]
      have HS0 := Lib.hid hs; have HR0 := Lib.hid hr0; clear hs hr0
      go_wp2_with (fail)
      go_loopw [3, 4] (fun s i wr => ∃ k : Nat, k ≤ l.readers.length ∧ i = .int .i64 k ∧ s = .string (hText s0 l.readers k) ∧ wr.heap[w.heap.size]? = some (.cells #[.slice a0 l.readers.length p0, .int .i64 l.writer, .slice a2 l.q.length p2] 30 (0, 0)) ∧ Below w.heap.size w wr) (fun _ i _ => l.readers.length - (intOf i).toNat)
      case atStart => exact ⟨0, Nat.zero_le _, rfl, rfl, X2.out, B2.out⟩
      case round =>
        obtain ⟨w20, rfl⟩ : ∃ x : World, x = wr := ⟨_, rfl⟩
        obtain ⟨k, hk, rfl, rfl, hx, hb⟩ := hrel
        have B20 := Lib.hid hb; have S20 := hb.size; have X20 := Lib.hid hx; clear hb hx
        obtain ⟨c20_0, c20_1, c20_2, f20_0, f20_1, f20_2⟩ := box3 X20.out; have lx20 := heap_lt X20.out
        by_cases hlt : k < l.readers.length
        · have d0 : decide ((k : Int) < (l.readers.length : Int)) = true := decide_eq_true (by omega)
          obtain ⟨_, _, e1, _, _, r0⟩ := (IRow.below HI.out B20.out).look; injection e1 with e1 _ e2; subst e1 e2
          obtain ⟨b, o, rfl, hb1, hc1⟩ := r0 (by omega)
          obtain ⟨r, hr⟩ := get_ex hlt
          have k1 := hc1 k r hr
          have ht := Lib.hid (hok.out.thr_r hr)
          have HT := Lib.hid (rText_succ hr)
          clear hc1 r0 hr
          rcases Nat.eq_zero_or_pos k with hk0 | hk0
          · subst hk0
            rw [Nat.add_zero] at k1
            go_wp2_with (fail)
            refine (l13Dec_calls r _ ht.out).mono ?_
            rintro e w21 ⟨rfl, hb⟩
            have B21 := Lib.hid (Below.trans B20.out (hb.mono (by first | omega | (simp only [szA, szS, szD, World.heap_drewN] at * <;> omega))) : Below w.heap.size w w21)
            have N21 : w20.heap.size ≤ w21.heap.size := hb.size
            have X21 := Lib.hid (below_at hb X20.out)
            clear hb
            obtain ⟨c21_0, c21_1, c21_2, f21_0, f21_1, f21_2⟩ := box3 X21.out; have lx21 := heap_lt X21.out
            obtain ⟨d, hd⟩ : ∃ d, dig r = d := ⟨_, rfl⟩
            have hds : d.size = 1 := by rw [← hd]; exact dig_size r
            rw [hd]
            have HD := Lib.hid hd; clear hd
            go_wp2
            go_roundw
            case rel => exact ⟨1, by omega, by go_num, by have h := HT.out; simp only [Nat.zero_add, List.take_zero] at h; simp only [hText]; rw [if_neg (by decide), h, rStep, HD.out]; rfl, X21.out, B21.out⟩
            case measure => simp [intOf]; omega
          · have d1 : ((k : Int) == 0) = false := by simp; omega
            obtain ⟨s, hs⟩ : ∃ s, hText s0 l.readers k = s := ⟨_, rfl⟩
            have hss : s.size ≤ 12 := by rw [← hs]; exact hText_size _ _ _ hs0.out hok.out.small.1
            rw [hs]
            have hs2 : rText (l.readers.take k) = s := by rw [← hs, hText, if_neg (by omega)]
            have HS := Lib.hid hs2; clear hs hs2
            go_wp2_with (fail)
            refine (l13Dec_calls r _ ht.out).mono ?_
            rintro e w21 ⟨rfl, hb⟩
            have B21 := Lib.hid (Below.trans B20.out (hb.mono (by first | omega | (simp only [szA, szS, szD, World.heap_drewN] at * <;> omega))) : Below w.heap.size w w21)
            have N21 : w20.heap.size ≤ w21.heap.size := hb.size
            have X21 := Lib.hid (below_at hb X20.out)
            clear hb
            obtain ⟨c21_0, c21_1, c21_2, f21_0, f21_1, f21_2⟩ := box3 X21.out; have lx21 := heap_lt X21.out
            obtain ⟨d, hd⟩ : ∃ d, dig r = d := ⟨_, rfl⟩
            have hds : d.size = 1 := by rw [← hd]; exact dig_size r
            rw [hd]
            have HD := Lib.hid hd; clear hd
            go_wp2
            go_roundw
            case rel => exact ⟨k + 1, by omega, by go_num, by simp only [hText]; rw [if_neg (by omega), HT.out, rStep, HD.out, HS.out], X21.out, B21.out⟩
            case measure => simp [intOf]; omega
        · have d0 : decide ((k : Int) < (l.readers.length : Int)) = false := decide_eq_false (by omega)
          obtain rfl : k = l.readers.length := by omega
          obtain ⟨s1, hs1⟩ : ∃ s, hText s0 l.readers l.readers.length = s := ⟨_, rfl⟩
          have HS1 : Hid (headText l = s1) := by show _ = _; rw [← hs1]; unfold headText hText; rw [if_neg HWR.out, if_pos HR0.out, HS0.out]
          have hss : s1.size ≤ 12 := by rw [← hs1]; exact hText_size _ _ _ hs0.out hok.out.small.1
          rw [hs1]
          clear hs1
          go_wp2_with (fail)
          go_loopw [3, 5] (fun s i wr => ∃ k : Nat, k ≤ l.q.length ∧ i = .int .i64 k ∧ s = .string (qText s1 (l.q.take k)) ∧ wr.heap[w.heap.size]? = some (.cells #[.slice a0 l.readers.length p0, .int .i64 l.writer, .slice a2 l.q.length p2] 30 (0, 0)) ∧ Below w.heap.size w wr) (fun _ i _ => l.q.length - (intOf i).toNat)
          case atStart => exact ⟨0, Nat.zero_le _, rfl, rfl, X20.out, B20.out⟩
          case round =>
            obtain ⟨w30, rfl⟩ : ∃ x : World, x = wr := ⟨_, rfl⟩
            obtain ⟨k, hk, rfl, rfl, hx, hb⟩ := hrel
            have B30 := Lib.hid hb; have S30 := hb.size; have X30 := Lib.hid hx; clear hb hx
            obtain ⟨c30_0, c30_1, c30_2, f30_0, f30_1, f30_2⟩ := box3 X30.out; have lx30 := heap_lt X30.out
            by_cases hlt : k < l.q.length
            · have d0 : decide ((k : Int) < (l.q.length : Int)) = true := decide_eq_true (by omega)
              obtain ⟨_, _, e1, _, _, r0⟩ := WRow.look (Row.below HW.out B30.out); injection e1 with e1 _ e2; subst e1 e2
              obtain ⟨b, o, rfl, hb1, hc1⟩ := r0 (by omega)
              obtain ⟨x, hr⟩ := get_ex hlt
              obtain ⟨k1, k2⟩ := hc1 k x hr
              have ht := Lib.hid (hok.out.thr_q hr)
              have HT := Lib.hid (qText_succ s1 hr)
              clear hc1 r0 hr
              obtain ⟨t, wb⟩ := x
              dsimp only at k1 k2 ht
              obtain ⟨s, hs⟩ : ∃ s, qText s1 (l.q.take k) = s := ⟨_, rfl⟩
              have hss2 : s.size ≤ 40 := by rw [← hs, qText_size, List.length_take]; have := hok.out.small; omega
              rw [hs] at HT ⊢
              clear hs
              cases wb
              · go_wp2_with (fail)
                refine (l13Dec_calls t _ ht.out).mono ?_
                rintro e w31 ⟨rfl, hb⟩
                have B31 := Lib.hid (Below.trans B30.out (hb.mono (by first | omega | (simp only [szA, szS, szD, World.heap_drewN] at * <;> omega))) : Below w.heap.size w w31)
                have N31 : w30.heap.size ≤ w31.heap.size := hb.size
                have X31 := Lib.hid (below_at hb X30.out)
                clear hb
                obtain ⟨c31_0, c31_1, c31_2, f31_0, f31_1, f31_2⟩ := box3 X31.out; have lx31 := heap_lt X31.out
                obtain ⟨d, hd⟩ : ∃ d, dig t = d := ⟨_, rfl⟩
                have hds : d.size = 1 := by rw [← hd]; exact dig_size t
                rw [hd]
                have HD := Lib.hid hd; clear hd
                go_wp2
                go_roundw
                case rel => exact ⟨k + 1, by omega, by go_num, by rw [HT.out, qStep, HD.out]; rfl, X31.out, B31.out⟩
                case measure => simp [intOf]; omega
              · go_wp2_with (fail)
                refine (l13Dec_calls t _ ht.out).mono ?_
                rintro e w31 ⟨rfl, hb⟩
                have B31 := Lib.hid (Below.trans B30.out (hb.mono (by first | omega | (simp only [szA, szS, szD, World.heap_drewN] at * <;> omega))) : Below w.heap.size w w31)
                have N31 : w30.heap.size ≤ w31.heap.size := hb.size
                have X31 := Lib.hid (below_at hb X30.out)
                clear hb
                obtain ⟨c31_0, c31_1, c31_2, f31_0, f31_1, f31_2⟩ := box3 X31.out; have lx31 := heap_lt X31.out
                obtain ⟨d, hd⟩ : ∃ d, dig t = d := ⟨_, rfl⟩
                have hds : d.size = 1 := by rw [← hd]; exact dig_size t
                rw [hd]
                have HD := Lib.hid hd; clear hd
                go_wp2
                go_roundw
                case rel => exact ⟨k + 1, by omega, by go_num, by rw [HT.out, qStep, HD.out]; rfl, X31.out, B31.out⟩
                case measure => simp [intOf]; omega
            · have d0 : decide ((k : Int) < (l.q.length : Int)) = false := decide_eq_false (by omega)
              obtain rfl : k = l.q.length := by omega
              have HF : Hid (qText s1 (l.q.take l.q.length) = fmtL l) := by show _ = _; rw [fmtL, HV.out, HS1.out, take_all (Nat.le_refl _)]; rfl
              go_wp2
              go_ret
              exact ⟨ret_str HF.out, B30.out⟩
end Go.Proofs.YtbnfhnfnbhigoaaDoor
