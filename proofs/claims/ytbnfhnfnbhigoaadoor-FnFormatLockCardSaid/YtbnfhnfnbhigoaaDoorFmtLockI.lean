/- impl.FormatLock: what it returns (made by gen_fmtlock2.py). -/
import Derived.Test.YtbnfhnfnbhigoaaDoorFmtLockP
import Derived.Test.YtbnfhnfnbhigoaaDoorShelfB
import Derived.Test.YtbnfhnfnbhigoaaDoorLockValid
namespace Go.Proofs.YtbnfhnfnbhigoaaDoor
open Go.RowKit
set_option linter.unusedSimpArgs false
set_option linter.unusedVariables false
set_option maxRecDepth 100000 in
set_option maxHeartbeats 8000000 in
theorem FormatLock_calls (v : Value) (l : LockD) (w : World) (h : LockRow w v l) (hn : l.readers.length + l.q.length ≤ 1048576) :
    Calls Tryd.prog 10 #[v] w fun e w' => e = .returned (.string (fmtL l)) ∧ Below w.heap.size w w' := by
  have HR := Lib.hid h
  obtain ⟨a0, p0, a2, p2, rfl, r0, r2⟩ := h
  have HI := Lib.hid r0; have HW := Lib.hid r2; clear r0 r2
  have hm1 : l.readers.length ≤ 9223372036854775807 := by omega
  have hm2 : l.q.length ≤ 9223372036854775807 := by omega
  have X0 := Lib.hid (heap_at w (.cells #[.slice a0 l.readers.length p0, .int .i64 l.writer, .slice a2 l.q.length p2] 30))
  have B0 := Lib.hid ((Below.refl w.heap.size w).alloc (Nat.le_refl _) (.cells #[.slice a0 l.readers.length p0, .int .i64 l.writer, .slice a2 l.q.length p2] 30))
  go_enter Tryd.func10, Tryd.ntmps10
  go_wp2_with (fail)
  refine (LockValid_calls _ l _ (LockRow.below HR.out B0.out) hn).mono ?_
  rintro e w1 ⟨rfl, hb⟩
  have B1 := Lib.hid (B0.out.trans (hb.mono (by first | omega | (simp only [szA, szS, szD, World.heap_drewN] at * <;> omega)))); have N1 := B1.out.size
  have X1 := Lib.hid (below_at hb X0.out)
  clear hb
  obtain ⟨c1_0, c1_1, c1_2, f1_0, f1_1, f1_2⟩ := box3 X1.out; have lx1 := heap_lt X1.out
  cases hv : lockB l
  · have HV := Lib.hid hv; clear hv
    have HF : Hid (fmtL l = ⟨#[]⟩) := by show _ = _; rw [fmtL, HV.out]; rfl
    go_wp2
    go_ret
    exact ⟨ret_str HF.out.symm, B1.out⟩
  · have HV := Lib.hid hv; clear hv
    have hok := Lib.hid (lockB_true.1 HV.out)
    have L2 := Lib.hid (Bld.fresh w1)
    have B2 := Lib.hid (Below.alloc B1.out (by omega) (.cells #[.pointer none, .slice none 0 0] 50))
    have X2 := Lib.hid (below_at (Below.alloc (Below.refl _ _) (Nat.le_refl _) (.cells #[.pointer none, .slice none 0 0] 50)) X1.out)
    obtain ⟨c2_0, c2_1, c2_2, f2_0, f2_1, f2_2⟩ := box3 X2.out; have lx2 := heap_lt X2.out
    by_cases hw : l.writer = -1
    · have dw : (l.writer != -1) = false := by simpa using hw
      have HWR := Lib.hid hw; clear hw
      by_cases hr0 : l.readers.length = 0
      · have dr : decide (0 < l.readers.length) = false := decide_eq_false (by omega)
        have HR0 := Lib.hid hr0; clear hr0
        have HH : Hid ((⟨#[]⟩ : ByteArray) ++ ⟨#[102, 114, 101, 101]⟩ = headText l) := by show _ = _; unfold headText; rw [if_pos HWR.out, if_pos HR0.out, emp_append]
        go_wp2_with (fail)
        have key := WriteB_calls w1.heap.size ⟨#[]⟩ ⟨#[102, 114, 101, 101]⟩ _ L2.out (by decide) (by decide)
        refine key.mono ?_
        clear key
        rintro e w3 ⟨rfl, hw, hb⟩
        have L3 := Lib.hid hw; clear hw
        have B3 := Lib.hid (Below.trans B2.out (hb.mono (by omega)) : Below w.heap.size w w3); have N3 := hb.size
        have X3 := Lib.hid (below_at' hb X2.out (by omega)); clear hb
        obtain ⟨c3_0, c3_1, c3_2, f3_0, f3_1, f3_2⟩ := box3 X3.out; have lx3 := heap_lt X3.out
        rw [HH.out] at L3
        go_wp2_with (fail)
        go_loopw [42] (fun i wr => ∃ k : Nat, k ≤ l.q.length ∧ i = .int .i64 k ∧ Bld w1.heap.size (qText (headText l) (l.q.take k)) wr ∧ wr.heap[w.heap.size]? = some (.cells #[.slice a0 l.readers.length p0, .int .i64 l.writer, .slice a2 l.q.length p2] 30 (0, 0)) ∧ Below w.heap.size w wr) (fun i _ => l.q.length - (intOf i).toNat)
        case atStart => exact ⟨0, Nat.zero_le _, rfl, L3.out, X3.out, B3.out⟩
        case round =>
          obtain ⟨w30, rfl⟩ : ∃ x : World, x = wr := ⟨_, rfl⟩
          obtain ⟨k, hk, rfl, hl, hx, hb⟩ := hrel
          have B30 := Lib.hid hb; have S30 := hb.size; have X30 := Lib.hid hx; have L30 := Lib.hid hl; have M30 := hl.lt; clear hb hx hl
          obtain ⟨c30_0, c30_1, c30_2, f30_0, f30_1, f30_2⟩ := box3 X30.out; have lx30 := heap_lt X30.out
          by_cases hlt : k < l.q.length
          · have d0 : decide ((k : Int) < (l.q.length : Int)) = true := decide_eq_true (by omega)
            obtain ⟨_, _, e1, _, _, r0⟩ := WRow.look (Row.below HW.out B30.out); injection e1 with e1 _ e2; subst e1 e2
            obtain ⟨b, o, rfl, hb1, hc1⟩ := r0 (by omega)
            obtain ⟨x, hr⟩ := get_ex hlt
            obtain ⟨k1, k2⟩ := hc1 k x hr
            have ht := Lib.hid (hok.out.thr_q hr)
            have HT := Lib.hid (qText_succ (headText l) hr)
            clear hc1 r0 hr
            obtain ⟨t, wb⟩ := x
            dsimp only at k1 k2 ht
            obtain ⟨s, hs⟩ : ∃ s, qText (headText l) (l.q.take k) = s := ⟨_, rfl⟩
            have hss2 : s.size ≤ 40 := by rw [← hs, qText_size, List.length_take]; have := hok.out.small; have := headText_size hok.out; omega
            rw [hs] at HT L30
            clear hs
            cases wb
            · go_wp2_with (fail)
              refine (Itoa_calls t _ ht.out).mono ?_
              rintro e w31 ⟨rfl, rfl⟩
              obtain ⟨d, hd⟩ : ∃ d, dig t = d := ⟨_, rfl⟩
              have hds : d.size = 1 := by rw [← hd]; exact dig_size _
              rw [hd]
              have HD := Lib.hid hd; clear hd
              obtain ⟨w31, hw31⟩ : ∃ x : World, x = w30.alloc (.cells #[.int .i64 t, .bool false] 45) := ⟨_, rfl⟩
              have hb : Below w30.heap.size w30 w31 := by rw [hw31]; exact Below.alloc (Below.refl _ _) (Nat.le_refl _) _
              have K31 := Lib.hid (Bld.kept L30.out hb)
              have B31 := Lib.hid (Below.trans B30.out (hb.mono (by omega)) : Below w.heap.size w w31)
              have X31 := Lib.hid (below_at hb X30.out); clear hb
              go_wp2_with (fail)
              rw [← hw31]
              clear hw31
              have hx2 : ((⟨#[32, 114]⟩ ++ d) : ByteArray).size ≤ 1048576 := (by rw [ByteArray.size_append, hds]; simp [ByteArray.size])
              have key := WriteB_calls w1.heap.size s (⟨#[32, 114]⟩ ++ d) _ K31.out (by omega) hx2
              refine key.mono ?_
              clear key
              rintro e w32 ⟨rfl, hw, hb⟩
              have L32 := Lib.hid hw; clear hw
              have B32 := Lib.hid (Below.trans B31.out (hb.mono (by omega)) : Below w.heap.size w w32); have N32 := hb.size
              have X32 := Lib.hid (below_at' hb X31.out (by omega)); clear hb
              obtain ⟨c32_0, c32_1, c32_2, f32_0, f32_1, f32_2⟩ := box3 X32.out; have lx32 := heap_lt X32.out
              go_wp2
              go_roundw
              case rel => exact ⟨k + 1, by omega, by go_num, by rw [HT.out, qStep, HD.out, ByteArray.append_assoc]; exact L32.out, X32.out, B32.out⟩
              case measure => simp [intOf]; omega
            · go_wp2_with (fail)
              refine (Itoa_calls t _ ht.out).mono ?_
              rintro e w31 ⟨rfl, rfl⟩
              obtain ⟨d, hd⟩ : ∃ d, dig t = d := ⟨_, rfl⟩
              have hds : d.size = 1 := by rw [← hd]; exact dig_size _
              rw [hd]
              have HD := Lib.hid hd; clear hd
              obtain ⟨w31, hw31⟩ : ∃ x : World, x = w30.alloc (.cells #[.int .i64 t, .bool true] 45) := ⟨_, rfl⟩
              have hb : Below w30.heap.size w30 w31 := by rw [hw31]; exact Below.alloc (Below.refl _ _) (Nat.le_refl _) _
              have K31 := Lib.hid (Bld.kept L30.out hb)
              have B31 := Lib.hid (Below.trans B30.out (hb.mono (by omega)) : Below w.heap.size w w31)
              have X31 := Lib.hid (below_at hb X30.out); clear hb
              go_wp2_with (fail)
              rw [← hw31]
              clear hw31
              have hx2 : ((⟨#[32, 119]⟩ ++ d) : ByteArray).size ≤ 1048576 := (by rw [ByteArray.size_append, hds]; simp [ByteArray.size])
              have key := WriteB_calls w1.heap.size s (⟨#[32, 119]⟩ ++ d) _ K31.out (by omega) hx2
              refine key.mono ?_
              clear key
              rintro e w32 ⟨rfl, hw, hb⟩
              have L32 := Lib.hid hw; clear hw
              have B32 := Lib.hid (Below.trans B31.out (hb.mono (by omega)) : Below w.heap.size w w32); have N32 := hb.size
              have X32 := Lib.hid (below_at' hb X31.out (by omega)); clear hb
              obtain ⟨c32_0, c32_1, c32_2, f32_0, f32_1, f32_2⟩ := box3 X32.out; have lx32 := heap_lt X32.out
              go_wp2
              go_roundw
              case rel => exact ⟨k + 1, by omega, by go_num, by rw [HT.out, qStep, HD.out, ByteArray.append_assoc]; exact L32.out, X32.out, B32.out⟩
              case measure => simp [intOf]; omega
          · have d0 : decide ((k : Int) < (l.q.length : Int)) = false := decide_eq_false (by omega)
            obtain rfl : k = l.q.length := by omega
            have HF : Hid (qText (headText l) (l.q.take l.q.length) = fmtL l) := by show _ = _; rw [fmtL, HV.out, take_all (Nat.le_refl _)]; rfl
            rw [HF.out] at L30
            go_wp2_with (fail)
            refine (StringB_calls w1.heap.size (fmtL l) _ L30.out).mono ?_
            rintro e w33 ⟨rfl, hb⟩
            have B33 := Lib.hid (Below.trans B30.out (hb.mono (by omega)) : Below w.heap.size w w33); clear hb
            go_wp2
            go_ret
            exact ⟨rfl, B33.out⟩
      · have dr : decide (0 < l.readers.length) = true := decide_eq_true (by omega)
        have HR0 := Lib.hid hr0; clear hr0
        go_wp2_with (fail)
        go_loopw [30] (fun i wr => ∃ k : Nat, k ≤ l.readers.length ∧ i = .int .i64 k ∧ Bld w1.heap.size (rText (l.readers.take k)) wr ∧ wr.heap[w.heap.size]? = some (.cells #[.slice a0 l.readers.length p0, .int .i64 l.writer, .slice a2 l.q.length p2] 30 (0, 0)) ∧ Below w.heap.size w wr) (fun i _ => l.readers.length - (intOf i).toNat)
        case atStart => exact ⟨0, Nat.zero_le _, rfl, L2.out, X2.out, B2.out⟩
        case round =>
          obtain ⟨w20, rfl⟩ : ∃ x : World, x = wr := ⟨_, rfl⟩
          obtain ⟨k, hk, rfl, hl, hx, hb⟩ := hrel
          have B20 := Lib.hid hb; have S20 := hb.size; have X20 := Lib.hid hx; have L20 := Lib.hid hl; have M20 := hl.lt; clear hb hx hl
          obtain ⟨c20_0, c20_1, c20_2, f20_0, f20_1, f20_2⟩ := box3 X20.out; have lx20 := heap_lt X20.out
          by_cases hlt : k < l.readers.length
          · have d0 : decide ((k : Int) < (l.readers.length : Int)) = true := decide_eq_true (by omega)
            obtain ⟨_, _, e1, _, _, r0⟩ := IRow.look (Row.below HI.out B20.out); injection e1 with e1 _ e2; subst e1 e2
            obtain ⟨b, o, rfl, hb1, hc1⟩ := r0 (by omega)
            obtain ⟨r, hr⟩ := get_ex hlt
            have k1 := hc1 k r hr
            have ht := Lib.hid (hok.out.thr_r hr)
            have HT := Lib.hid (rText_succ hr)
            clear hc1 r0 hr
            obtain ⟨s, hs⟩ : ∃ s, rText (l.readers.take k) = s := ⟨_, rfl⟩
            have hss2 : s.size ≤ 12 := by rw [← hs, rText_size, List.length_take]; have := hok.out.small; omega
            rw [hs] at HT L20
            clear hs
            go_wp2_with (fail)
            refine (Itoa_calls r _ ht.out).mono ?_
            rintro e w21 ⟨rfl, rfl⟩
            obtain ⟨d, hd⟩ : ∃ d, dig r = d := ⟨_, rfl⟩
            have hds : d.size = 1 := by rw [← hd]; exact dig_size _
            rw [hd]
            have HD := Lib.hid hd; clear hd
            have hx2 : ((⟨#[114]⟩ ++ d) : ByteArray).size ≤ 1048576 := (by rw [ByteArray.size_append, hds]; simp [ByteArray.size])
            go_wp2_with (fail)
            have key := WriteB_calls w1.heap.size s (⟨#[114]⟩ ++ d) _ L20.out (by omega) hx2
            refine key.mono ?_
            clear key
            rintro e w22 ⟨rfl, hw, hb⟩
            have L22 := Lib.hid hw; clear hw
            have B22 := Lib.hid (Below.trans B20.out (hb.mono (by omega)) : Below w.heap.size w w22); have N22 := hb.size
            have X22 := Lib.hid (below_at' hb X20.out (by omega)); clear hb
            obtain ⟨c22_0, c22_1, c22_2, f22_0, f22_1, f22_2⟩ := box3 X22.out; have lx22 := heap_lt X22.out
            go_wp2
            go_roundw
            case rel => exact ⟨k + 1, by omega, by go_num, by rw [HT.out, rStep, HD.out, ByteArray.append_assoc]; exact L22.out, X22.out, B22.out⟩
            case measure => simp [intOf]; omega
          · have d0 : decide ((k : Int) < (l.readers.length : Int)) = false := decide_eq_false (by omega)
            obtain rfl : k = l.readers.length := by omega
            have HH : Hid (rText (l.readers.take l.readers.length) = headText l) := by show _ = _; unfold headText; rw [if_pos HWR.out, if_neg HR0.out, take_all (Nat.le_refl _)]
            rw [HH.out] at L20
            go_wp2_with (fail)
            go_loopw [42] (fun i wr => ∃ k : Nat, k ≤ l.q.length ∧ i = .int .i64 k ∧ Bld w1.heap.size (qText (headText l) (l.q.take k)) wr ∧ wr.heap[w.heap.size]? = some (.cells #[.slice a0 l.readers.length p0, .int .i64 l.writer, .slice a2 l.q.length p2] 30 (0, 0)) ∧ Below w.heap.size w wr) (fun i _ => l.q.length - (intOf i).toNat)
            case atStart => exact ⟨0, Nat.zero_le _, rfl, L20.out, X20.out, B20.out⟩
            case round =>
              obtain ⟨w30, rfl⟩ : ∃ x : World, x = wr := ⟨_, rfl⟩
              obtain ⟨k, hk, rfl, hl, hx, hb⟩ := hrel
              have B30 := Lib.hid hb; have S30 := hb.size; have X30 := Lib.hid hx; have L30 := Lib.hid hl; have M30 := hl.lt; clear hb hx hl
              obtain ⟨c30_0, c30_1, c30_2, f30_0, f30_1, f30_2⟩ := box3 X30.out; have lx30 := heap_lt X30.out
              by_cases hlt : k < l.q.length
              · have d0 : decide ((k : Int) < (l.q.length : Int)) = true := decide_eq_true (by omega)
                obtain ⟨_, _, e1, _, _, r0⟩ := WRow.look (Row.below HW.out B30.out); injection e1 with e1 _ e2; subst e1 e2
                obtain ⟨b, o, rfl, hb1, hc1⟩ := r0 (by omega)
                obtain ⟨x, hr⟩ := get_ex hlt
                obtain ⟨k1, k2⟩ := hc1 k x hr
                have ht := Lib.hid (hok.out.thr_q hr)
                have HT := Lib.hid (qText_succ (headText l) hr)
                clear hc1 r0 hr
                obtain ⟨t, wb⟩ := x
                dsimp only at k1 k2 ht
                obtain ⟨s, hs⟩ : ∃ s, qText (headText l) (l.q.take k) = s := ⟨_, rfl⟩
                have hss2 : s.size ≤ 40 := by rw [← hs, qText_size, List.length_take]; have := hok.out.small; have := headText_size hok.out; omega
                rw [hs] at HT L30
                clear hs
                cases wb
                · go_wp2_with (fail)
                  refine (Itoa_calls t _ ht.out).mono ?_
                  rintro e w31 ⟨rfl, rfl⟩
                  obtain ⟨d, hd⟩ : ∃ d, dig t = d := ⟨_, rfl⟩
                  have hds : d.size = 1 := by rw [← hd]; exact dig_size _
                  rw [hd]
                  have HD := Lib.hid hd; clear hd
                  obtain ⟨w31, hw31⟩ : ∃ x : World, x = w30.alloc (.cells #[.int .i64 t, .bool false] 45) := ⟨_, rfl⟩
                  have hb : Below w30.heap.size w30 w31 := by rw [hw31]; exact Below.alloc (Below.refl _ _) (Nat.le_refl _) _
                  have K31 := Lib.hid (Bld.kept L30.out hb)
                  have B31 := Lib.hid (Below.trans B30.out (hb.mono (by omega)) : Below w.heap.size w w31)
                  have X31 := Lib.hid (below_at hb X30.out); clear hb
                  go_wp2_with (fail)
                  rw [← hw31]
                  clear hw31
                  have hx2 : ((⟨#[32, 114]⟩ ++ d) : ByteArray).size ≤ 1048576 := (by rw [ByteArray.size_append, hds]; simp [ByteArray.size])
                  have key := WriteB_calls w1.heap.size s (⟨#[32, 114]⟩ ++ d) _ K31.out (by omega) hx2
                  refine key.mono ?_
                  clear key
                  rintro e w32 ⟨rfl, hw, hb⟩
                  have L32 := Lib.hid hw; clear hw
                  have B32 := Lib.hid (Below.trans B31.out (hb.mono (by omega)) : Below w.heap.size w w32); have N32 := hb.size
                  have X32 := Lib.hid (below_at' hb X31.out (by omega)); clear hb
                  obtain ⟨c32_0, c32_1, c32_2, f32_0, f32_1, f32_2⟩ := box3 X32.out; have lx32 := heap_lt X32.out
                  go_wp2
                  go_roundw
                  case rel => exact ⟨k + 1, by omega, by go_num, by rw [HT.out, qStep, HD.out, ByteArray.append_assoc]; exact L32.out, X32.out, B32.out⟩
                  case measure => simp [intOf]; omega
                · go_wp2_with (fail)
                  refine (Itoa_calls t _ ht.out).mono ?_
                  rintro e w31 ⟨rfl, rfl⟩
                  obtain ⟨d, hd⟩ : ∃ d, dig t = d := ⟨_, rfl⟩
                  have hds : d.size = 1 := by rw [← hd]; exact dig_size _
                  rw [hd]
                  have HD := Lib.hid hd; clear hd
                  obtain ⟨w31, hw31⟩ : ∃ x : World, x = w30.alloc (.cells #[.int .i64 t, .bool true] 45) := ⟨_, rfl⟩
                  have hb : Below w30.heap.size w30 w31 := by rw [hw31]; exact Below.alloc (Below.refl _ _) (Nat.le_refl _) _
                  have K31 := Lib.hid (Bld.kept L30.out hb)
                  have B31 := Lib.hid (Below.trans B30.out (hb.mono (by omega)) : Below w.heap.size w w31)
                  have X31 := Lib.hid (below_at hb X30.out); clear hb
                  go_wp2_with (fail)
                  rw [← hw31]
                  clear hw31
                  have hx2 : ((⟨#[32, 119]⟩ ++ d) : ByteArray).size ≤ 1048576 := (by rw [ByteArray.size_append, hds]; simp [ByteArray.size])
                  have key := WriteB_calls w1.heap.size s (⟨#[32, 119]⟩ ++ d) _ K31.out (by omega) hx2
                  refine key.mono ?_
                  clear key
                  rintro e w32 ⟨rfl, hw, hb⟩
                  have L32 := Lib.hid hw; clear hw
                  have B32 := Lib.hid (Below.trans B31.out (hb.mono (by omega)) : Below w.heap.size w w32); have N32 := hb.size
                  have X32 := Lib.hid (below_at' hb X31.out (by omega)); clear hb
                  obtain ⟨c32_0, c32_1, c32_2, f32_0, f32_1, f32_2⟩ := box3 X32.out; have lx32 := heap_lt X32.out
                  go_wp2
                  go_roundw
                  case rel => exact ⟨k + 1, by omega, by go_num, by rw [HT.out, qStep, HD.out, ByteArray.append_assoc]; exact L32.out, X32.out, B32.out⟩
                  case measure => simp [intOf]; omega
              · have d0 : decide ((k : Int) < (l.q.length : Int)) = false := decide_eq_false (by omega)
                obtain rfl : k = l.q.length := by omega
                have HF : Hid (qText (headText l) (l.q.take l.q.length) = fmtL l) := by show _ = _; rw [fmtL, HV.out, take_all (Nat.le_refl _)]; rfl
                rw [HF.out] at L30
                go_wp2_with (fail)
                refine (StringB_calls w1.heap.size (fmtL l) _ L30.out).mono ?_
                rintro e w33 ⟨rfl, hb⟩
                have B33 := Lib.hid (Below.trans B30.out (hb.mono (by omega)) : Below w.heap.size w w33); clear hb
                go_wp2
                go_ret
                exact ⟨rfl, B33.out⟩
    · have dw : (l.writer != -1) = true := by simpa using hw
      have HWR := Lib.hid hw
      have hthr := Lib.hid (hok.out.thr_w hw)
      clear hw
      go_wp2_with (fail)
      refine (Itoa_calls l.writer _ hthr.out).mono ?_
      rintro e w2 ⟨rfl, rfl⟩
      obtain ⟨d, hd⟩ : ∃ d, dig l.writer = d := ⟨_, rfl⟩
      have hds : d.size = 1 := by rw [← hd]; exact dig_size _
      rw [hd]
      have HD := Lib.hid hd; clear hd
      have HH : Hid ((⟨#[]⟩ : ByteArray) ++ (⟨#[119]⟩ ++ d) = headText l) := by show _ = _; unfold headText; rw [if_neg HWR.out, emp_append, HD.out]
      have hx2 : ((⟨#[119]⟩ ++ d) : ByteArray).size ≤ 1048576 := (by rw [ByteArray.size_append, hds]; simp [ByteArray.size])
      go_wp2_with (fail)
      have key := WriteB_calls w1.heap.size ⟨#[]⟩ (⟨#[119]⟩ ++ d) _ L2.out (by decide) hx2
      refine key.mono ?_
      clear key
      rintro e w3 ⟨rfl, hw, hb⟩
      have L3 := Lib.hid hw; clear hw
      have B3 := Lib.hid (Below.trans B2.out (hb.mono (by omega)) : Below w.heap.size w w3); have N3 := hb.size
      have X3 := Lib.hid (below_at' hb X2.out (by omega)); clear hb
      obtain ⟨c3_0, c3_1, c3_2, f3_0, f3_1, f3_2⟩ := box3 X3.out; have lx3 := heap_lt X3.out
      rw [HH.out] at L3
      clear HD hds
      go_wp2_with (fail)
      go_loopw [42] (fun i wr => ∃ k : Nat, k ≤ l.q.length ∧ i = .int .i64 k ∧ Bld w1.heap.size (qText (headText l) (l.q.take k)) wr ∧ wr.heap[w.heap.size]? = some (.cells #[.slice a0 l.readers.length p0, .int .i64 l.writer, .slice a2 l.q.length p2] 30 (0, 0)) ∧ Below w.heap.size w wr) (fun i _ => l.q.length - (intOf i).toNat)
      case atStart => exact ⟨0, Nat.zero_le _, rfl, L3.out, X3.out, B3.out⟩
      case round =>
        obtain ⟨w30, rfl⟩ : ∃ x : World, x = wr := ⟨_, rfl⟩
        obtain ⟨k, hk, rfl, hl, hx, hb⟩ := hrel
        have B30 := Lib.hid hb; have S30 := hb.size; have X30 := Lib.hid hx; have L30 := Lib.hid hl; have M30 := hl.lt; clear hb hx hl
        obtain ⟨c30_0, c30_1, c30_2, f30_0, f30_1, f30_2⟩ := box3 X30.out; have lx30 := heap_lt X30.out
        by_cases hlt : k < l.q.length
        · have d0 : decide ((k : Int) < (l.q.length : Int)) = true := decide_eq_true (by omega)
          obtain ⟨_, _, e1, _, _, r0⟩ := WRow.look (Row.below HW.out B30.out); injection e1 with e1 _ e2; subst e1 e2
          obtain ⟨b, o, rfl, hb1, hc1⟩ := r0 (by omega)
          obtain ⟨x, hr⟩ := get_ex hlt
          obtain ⟨k1, k2⟩ := hc1 k x hr
          have ht := Lib.hid (hok.out.thr_q hr)
          have HT := Lib.hid (qText_succ (headText l) hr)
          clear hc1 r0 hr
          obtain ⟨t, wb⟩ := x
          dsimp only at k1 k2 ht
          obtain ⟨s, hs⟩ : ∃ s, qText (headText l) (l.q.take k) = s := ⟨_, rfl⟩
          have hss2 : s.size ≤ 40 := by rw [← hs, qText_size, List.length_take]; have := hok.out.small; have := headText_size hok.out; omega
          rw [hs] at HT L30
          clear hs
          cases wb
          · go_wp2_with (fail)
            refine (Itoa_calls t _ ht.out).mono ?_
            rintro e w31 ⟨rfl, rfl⟩
            obtain ⟨d, hd⟩ : ∃ d, dig t = d := ⟨_, rfl⟩
            have hds : d.size = 1 := by rw [← hd]; exact dig_size _
            rw [hd]
            have HD := Lib.hid hd; clear hd
            obtain ⟨w31, hw31⟩ : ∃ x : World, x = w30.alloc (.cells #[.int .i64 t, .bool false] 45) := ⟨_, rfl⟩
            have hb : Below w30.heap.size w30 w31 := by rw [hw31]; exact Below.alloc (Below.refl _ _) (Nat.le_refl _) _
            have K31 := Lib.hid (Bld.kept L30.out hb)
            have B31 := Lib.hid (Below.trans B30.out (hb.mono (by omega)) : Below w.heap.size w w31)
            have X31 := Lib.hid (below_at hb X30.out); clear hb
            go_wp2_with (fail)
            rw [← hw31]
            clear hw31
            have hx2 : ((⟨#[32, 114]⟩ ++ d) : ByteArray).size ≤ 1048576 := (by rw [ByteArray.size_append, hds]; simp [ByteArray.size])
            have key := WriteB_calls w1.heap.size s (⟨#[32, 114]⟩ ++ d) _ K31.out (by omega) hx2
            refine key.mono ?_
            clear key
            rintro e w32 ⟨rfl, hw, hb⟩
            have L32 := Lib.hid hw; clear hw
            have B32 := Lib.hid (Below.trans B31.out (hb.mono (by omega)) : Below w.heap.size w w32); have N32 := hb.size
            have X32 := Lib.hid (below_at' hb X31.out (by omega)); clear hb
            obtain ⟨c32_0, c32_1, c32_2, f32_0, f32_1, f32_2⟩ := box3 X32.out; have lx32 := heap_lt X32.out
            go_wp2
            go_roundw
            case rel => exact ⟨k + 1, by omega, by go_num, by rw [HT.out, qStep, HD.out, ByteArray.append_assoc]; exact L32.out, X32.out, B32.out⟩
            case measure => simp [intOf]; omega
          · go_wp2_with (fail)
            refine (Itoa_calls t _ ht.out).mono ?_
            rintro e w31 ⟨rfl, rfl⟩
            obtain ⟨d, hd⟩ : ∃ d, dig t = d := ⟨_, rfl⟩
            have hds : d.size = 1 := by rw [← hd]; exact dig_size _
            rw [hd]
            have HD := Lib.hid hd; clear hd
            obtain ⟨w31, hw31⟩ : ∃ x : World, x = w30.alloc (.cells #[.int .i64 t, .bool true] 45) := ⟨_, rfl⟩
            have hb : Below w30.heap.size w30 w31 := by rw [hw31]; exact Below.alloc (Below.refl _ _) (Nat.le_refl _) _
            have K31 := Lib.hid (Bld.kept L30.out hb)
            have B31 := Lib.hid (Below.trans B30.out (hb.mono (by omega)) : Below w.heap.size w w31)
            have X31 := Lib.hid (below_at hb X30.out); clear hb
            go_wp2_with (fail)
            rw [← hw31]
            clear hw31
            have hx2 : ((⟨#[32, 119]⟩ ++ d) : ByteArray).size ≤ 1048576 := (by rw [ByteArray.size_append, hds]; simp [ByteArray.size])
            have key := WriteB_calls w1.heap.size s (⟨#[32, 119]⟩ ++ d) _ K31.out (by omega) hx2
            refine key.mono ?_
            clear key
            rintro e w32 ⟨rfl, hw, hb⟩
            have L32 := Lib.hid hw; clear hw
            have B32 := Lib.hid (Below.trans B31.out (hb.mono (by omega)) : Below w.heap.size w w32); have N32 := hb.size
            have X32 := Lib.hid (below_at' hb X31.out (by omega)); clear hb
            obtain ⟨c32_0, c32_1, c32_2, f32_0, f32_1, f32_2⟩ := box3 X32.out; have lx32 := heap_lt X32.out
            go_wp2
            go_roundw
            case rel => exact ⟨k + 1, by omega, by go_num, by rw [HT.out, qStep, HD.out, ByteArray.append_assoc]; exact L32.out, X32.out, B32.out⟩
            case measure => simp [intOf]; omega
        · have d0 : decide ((k : Int) < (l.q.length : Int)) = false := decide_eq_false (by omega)
          obtain rfl : k = l.q.length := by omega
          have HF : Hid (qText (headText l) (l.q.take l.q.length) = fmtL l) := by show _ = _; rw [fmtL, HV.out, take_all (Nat.le_refl _)]; rfl
          rw [HF.out] at L30
          go_wp2_with (fail)
          refine (StringB_calls w1.heap.size (fmtL l) _ L30.out).mono ?_
          rintro e w33 ⟨rfl, hb⟩
          have B33 := Lib.hid (Below.trans B30.out (hb.mono (by omega)) : Below w.heap.size w w33); clear hb
          go_wp2
          go_ret
          exact ⟨rfl, B33.out⟩
end Go.Proofs.YtbnfhnfnbhigoaaDoor
