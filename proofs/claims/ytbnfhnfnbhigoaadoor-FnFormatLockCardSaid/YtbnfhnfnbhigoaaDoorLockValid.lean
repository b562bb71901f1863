/- impl.LockValid: what it returns (made by gen_lockvalid.py). -/
import Derived.Test.YtbnfhnfnbhigoaaDoorLockPlain
namespace Go.Proofs.YtbnfhnfnbhigoaaDoor
open Go.RowKit
set_option linter.unusedSimpArgs false
set_option linter.unusedVariables false
set_option maxHeartbeats 3200000 in
theorem LockValid_calls (v : Value) (l : LockD) (w : World) (h : LockRow w v l) (hn : l.readers.length + l.q.length ≤ 1048576) :
    Calls Tryd.prog 16 #[v] w fun e w' => e = .returned (.bool (lockB l)) ∧ Below w.heap.size w w' := by
  obtain ⟨rd, ww, q⟩ := l
  obtain ⟨a0, p0, a2, p2, rfl, r0, r2⟩ := h
  dsimp only at r0 r2 hn ⊢
  have HW := Lib.hid r2
  have HI := Lib.hid r0
  obtain ⟨x1, y1, e, l1, m1, r0⟩ := IRow.look r0
  injection e with e1 e2 e3
  subst e1 e3
  obtain ⟨x2, y2, e, l2, m2, r2⟩ := WRow.look r2
  injection e with e1 e2 e3
  subst e1 e3
  have R0 := Lib.hid r0; clear r0
  have R2 := Lib.hid r2; clear r2
  have n1 : rd.length ≤ 9223372036854775807 := by omega
  have n2 : q.length ≤ 9223372036854775807 := by omega
  have X0 := Lib.hid (heap_at w (.cells #[.slice a0 rd.length p0, .int .i64 ww, .slice a2 q.length p2] 30))
  have B00 := Lib.hid ((Below.refl w.heap.size w).alloc (Nat.le_refl _) (.cells #[.slice a0 rd.length p0, .int .i64 ww, .slice a2 q.length p2] 30))
  go_enter Tryd.func16, Tryd.ntmps16
  go_wp2_with (fail)
  refine (cloneInts_calls _ rd _ (Row.below HI.out B00.out) (by omega)).mono ?_
  rintro e w1 ⟨v1, rfl, ho, hb⟩
  have B1 := Lib.hid (B00.out.trans (hb.mono (by simp only [szA]; omega))); have X1 := Lib.hid (below_at hb X0.out)
  have z1 := hb.size; simp only [szA] at z1
  have O1 := Lib.hid (Own.mono (base' := w.heap.size + 1) ho.own (by simp only [szA]; omega))
  obtain ⟨ad1, cp1, rfl, hx⟩ := ho
  clear hb hx
  obtain ⟨c0, c1, c2, f0, f1, f2⟩ := box3 X1.out; have lx1 := heap_lt X1.out
  go_wp2
  go_loopw [4] (fun i wv => ∃ k : Nat, (k ≤ rd.length ∨ k = 0) ∧ i = .int .i64 ((k : Int) + 1) ∧ RiseTo rd (k + 1) ∧ Below w1.heap.size w1 wv) (fun i _ => rd.length + 1 - (intOf i).toNat)
  case atStart => exact ⟨0, .inr rfl, rfl, RiseTo.one rd, Below.refl _ _⟩
  case round =>
    obtain ⟨wv, rfl⟩ : ∃ wv : World, wv = wr := ⟨_, rfl⟩
    obtain ⟨k, hk, rfl, hj, hb⟩ := hrel
    have HJ := Lib.hid hj; clear hj
    have HB := Lib.hid hb; clear hb
    have hz := HB.out.size
    have BV := Lib.hid (B1.out.trans (HB.out.mono (by omega)))
    have XV := Lib.hid (below_at HB.out X1.out)
    have OV := Lib.hid (O1.out.kept HB.out)
    clear c0 c1 c2 f0 f1 f2
    obtain ⟨c0, c1, c2, f0, f1, f2⟩ := box3 XV.out; have lxv := heap_lt XV.out
    by_cases hlt : k + 1 < rd.length
    · obtain ⟨b, o, rfl, hb1, hc1⟩ := R0.out (by omega)
      obtain ⟨x, hx⟩ := get_ex (show k < rd.length by omega)
      obtain ⟨y, hy⟩ := get_ex hlt
      have k1 := (BV.out.cell (p := ⟨b, o + k, none⟩) hb1).trans (hc1 k x hx)
      have k2 := (BV.out.cell (p := ⟨b, o + (k + 1), none⟩) hb1).trans (hc1 (k + 1) y hy)
      have HX := Lib.hid hx; clear hx hc1
      have HY := Lib.hid hy; clear hy
      have e1 : (k : Int) + 1 < (rd.length : Int) := by omega
      have e2 : (0 : Int) ≤ (k : Int) + 1 := by omega
      have e3 : ((k : Int) + 1).toNat = k + 1 := by omega
      have e4 : IntKind.i64.wrap ((k : Int) + 1 - 1) = (k : Int) := by rw [IntWalk.i64_in _ (by omega)]; omega
      have e5 : (k : Int) < (rd.length : Int) := by omega
      by_cases hxy : y ≤ x
      · have d : decide (y ≤ x) = true := decide_eq_true hxy
        go_wp2
        go_quiet (fail)
        go_wp2
        go_ret
        exact ⟨ret_bool (lockB_false.2 (fun k => by have h := k.1; rw [show ((⟨rd, ww, q⟩ : LockD)).readers = rd from rfl, riseB_no HX.out HY.out hxy] at h; cases h)).symm, below_drewN BV.out _⟩
      · have d : decide (y ≤ x) = false := decide_eq_false hxy
        go_wp2
        go_quiet (fail)
        go_wp2
        go_roundw
        case rel => exact ⟨k + 1, .inl (by omega), by go_num, HJ.out.step HX.out HY.out (by omega), below_drewN HB.out _⟩
        case measure => simp [intOf]; omega
    · have hrs : riseB rd = true := HJ.out.all (by omega)
      have HRS := Lib.hid hrs; clear hrs
      by_cases hw : ww = -1
      · subst hw
        obtain ⟨ts, hts⟩ : ∃ ts, rd ++ wrL (-1) = ts := ⟨_, rfl⟩
        have etl : ts.length = rd.length := by rw [← hts]; simp [wrL]
        have HTL : Hid (ts.length ≤ rd.length + 1) := by show ts.length ≤ rd.length + 1; omega
        have ov : Own (w.heap.size + 1) 3 1 encI wv (.slice ad1 rd.length cp1) ts := by rw [← hts]; simpa [wrL] using OV.out
        have Oq := Lib.hid ov; clear ov
        have HTS := Lib.hid hts; clear hts etl
        have Bq := BV; have Xq := XV
        obtain ⟨wq, hwq⟩ : ∃ wq, wq = wv := ⟨_, rfl⟩
        subst hwq
        go_wp2
        go_loopw [3, 44] (fun t i wx => ∃ k : Nat, k ≤ q.length ∧ i = .int .i64 k ∧ Own (w.heap.size + 1) 3 1 encI wx t (ts ++ (q.take k).map (·.1)) ∧ Below (w.heap.size + 1) wq wx) (fun _ i _ => q.length - (intOf i).toNat)
        case atStart => exact ⟨0, Nat.zero_le _, rfl, by simpa using Oq.out, Below.refl _ _⟩
        case round =>
          obtain ⟨wx, rfl⟩ : ∃ wx : World, wx = wr := ⟨_, rfl⟩
          obtain ⟨k, hk, rfl, ho, hb⟩ := hrel
          have HO := Lib.hid ho
          have HB := Lib.hid hb; clear hb
          have hz : w.heap.size < wx.heap.size := by have := HB.out.size; omega
          have BW := Lib.hid (Bq.out.trans (HB.out.mono (by omega)))
          have Xx := Lib.hid (below_at' HB.out Xq.out (by omega))
          obtain ⟨c0, c1, c2, f0, f1, f2⟩ := box3 Xx.out
          by_cases hlt : k < q.length
          · obtain ⟨b, o, rfl, hb1, hc1⟩ := R2.out (by omega)
            obtain ⟨x, hx⟩ := get_ex hlt
            have hk1 := (BW.out.cell (p := ⟨b, o + k * 2, none⟩) hb1).trans (hc1 k x hx).1
            have hk2 := (BW.out.cell (p := ⟨b, o + k * 2 + 1, none⟩) hb1).trans (hc1 k x hx).2
            obtain ⟨us, hus⟩ : ∃ us, ts ++ (q.take k).map (·.1) = us := ⟨_, rfl⟩
            have hl : us.length = ts.length + k := by rw [← hus]; simp; omega
            have hL : (us.length + 1) * 8 ≤ 140737488355328 := by have := HTL.out; omega
            have HL := Lib.hid hL; clear hL
            have HLL := Lib.hid hl; clear hl
            rw [hus] at ho
            obtain ⟨ad, cp, rfl⟩ := ho.form
            have HO1 := Lib.hid ho; clear ho
            have HUS := Lib.hid hus; clear hus
            have HX := Lib.hid hx; clear hx hc1
            go_wp2_with (at_builtin; (refine wpList_snoc _ encI_len encI_one rfl _ _ 22 rfl 3 _ 8 Tryd.underlying22 info_int rfl (by decide) (w.heap.size + 1) (.slice ad us.length cp) us rfl (HO1.out.alloc _) x.1 _ rfl _ rfl (by simp) (by decide) HL.out (by omega) ?_); intro ad1 cp1 w3 hown hg hat; have HO3 := Lib.hid hown; have HG3 := Lib.hid hg; clear hown hg hat)
            go_roundw
            case rel =>
              refine ⟨k + 1, by omega, by go_num, ?_, push_below (HB.out.alloc (by omega) _) HG3.out HO1.out.blk (by simp only [szA]; omega) (Nat.le_refl _)⟩
              rw [take_snoc HX.out, List.map_append, ← List.append_assoc, HUS.out]; exact HO3.out
            case measure => simp [intOf]; omega
          · have e : q.take k = q := take_all (by omega)
            rw [e] at ho
            have eall : ts ++ q.map (·.1) = lockAll ⟨rd, (-1), q⟩ := by rw [← HTS.out]; rfl
            rw [eall] at ho
            obtain ⟨us, hus⟩ : ∃ us, lockAll ⟨rd, (-1), q⟩ = us := ⟨_, rfl⟩
            rw [hus] at ho
            obtain ⟨ad, cp, rfl⟩ := ho.form
            have HO1 := Lib.hid ho; clear ho HO e eall
            have HUS := Lib.hid hus; clear hus
            go_wp2_with (fail)
            refine (distinct_calls _ us _ (HO1.out.row encI_len)).mono ?_
            rintro e w5 ⟨rfl, hb⟩
            have B5 := Lib.hid (BW.out.trans (hb.mono (by omega))); have X5 := Lib.hid (below_at hb Xx.out)
            clear hb c0 c1 c2 f0 f1 f2
            obtain ⟨c0, c1, c2, f0, f1, f2⟩ := box3 X5.out
            cases hd : distB us
            · have HD := Lib.hid hd; clear hd
              go_wp2
              go_ret
              exact ⟨ret_bool (lockB_false.2 (fun k => by have h := HD.out; rw [← HUS.out] at h; simp only [distB, decide_eq_false_iff_not] at h; exact h k.2.2.1)).symm, B5.out⟩
            · have hd2 : distB (lockAll ⟨rd, (-1), q⟩) = true := by rw [HUS.out]; exact hd
              have HD := Lib.hid hd2; clear hd2
              have HD0 := Lib.hid hd; clear hd
              by_cases hq : 0 < q.length
              · have dQ := len_ne hq
                obtain ⟨b, o, rfl, hb1, hc1⟩ := R2.out hq
                obtain ⟨x, hx⟩ := get_ex hq
                have k2 := (B5.out.cell (p := ⟨b, o + 1, none⟩) hb1).trans (by simpa using (hc1 0 x hx).2)
                have HX := Lib.hid hx; clear hx hc1
                obtain ⟨xt, xw⟩ := x
                dsimp only at k2 HX
                cases xw
                · go_wp2
                  go_ret
                  exact ⟨ret_bool (lockB_false.2 (show ¬ LockOk ⟨rd, _, q⟩ from fun k => by have t : LockTail rd _ q := k.2.2.2; rcases t with t | t | t; exact absurd t (by omega); exact t rfl; have h := t.1; rw [HX.out] at h; simp at h)).symm, B5.out⟩
                · by_cases h0 : 0 < rd.length
                  · have d0 : decide ((0 : Int) < (rd.length : Int)) = true := decide_eq_true (by omega)
                    go_wp2
                    go_ret
                    exact ⟨ret_bool (lockB_true.2 (show LockOk ⟨rd, _, q⟩ from ⟨HRS.out, .inl rfl, by have h := HD.out; simpa [distB] using h, .inr (.inr ⟨by rw [HX.out]; rfl, h0⟩)⟩)).symm, B5.out⟩
                  · have d0 : decide ((0 : Int) < (rd.length : Int)) = false := decide_eq_false (by omega)
                    go_wp2
                    go_ret
                    exact ⟨ret_bool (lockB_false.2 (show ¬ LockOk ⟨rd, _, q⟩ from fun k => by have t : LockTail rd _ q := k.2.2.2; rcases t with t | t | t; exact absurd t (by omega); exact t rfl; exact h0 t.2)).symm, B5.out⟩
              · have dQ := len_eq hq
                go_wp2
                go_ret
                exact ⟨ret_bool (lockB_true.2 (show LockOk ⟨rd, _, q⟩ from ⟨HRS.out, .inl rfl, by have h := HD.out; simpa [distB] using h, .inl (by show q.length = 0; omega)⟩)).symm, B5.out⟩
      · have HNE := Lib.hid hw
        have dW : (ww != -1) = true := by simpa using hw
        clear hw
        by_cases h0 : 0 < rd.length
        · have d0 : decide ((0 : Int) < (rd.length : Int)) = true := decide_eq_true (by omega)
          go_wp2
          go_ret
          exact ⟨ret_bool (lockB_false.2 (show ¬ LockOk ⟨rd, ww, q⟩ from fun k => by rcases k.2.1 with h | h; exact HNE.out h; exact absurd (show rd.length = 0 from h) (by omega))).symm, BV.out⟩
        · have d0 : decide ((0 : Int) < (rd.length : Int)) = false := decide_eq_false (by omega)
          have HR0 := Lib.hid h0; clear h0
          have hL1 : (rd.length + 1) * 8 ≤ 140737488355328 := by omega
          have HL1 := Lib.hid hL1; clear hL1
          go_wp2_with (at_builtin; (refine wpList_snoc _ encI_len encI_one rfl _ _ 22 rfl 3 _ 8 Tryd.underlying22 info_int rfl (by decide) (w.heap.size + 1) (.slice ad1 rd.length cp1) rd rfl OV.out ww _ rfl _ rfl rfl (by decide) HL1.out (by omega) ?_); intro ad3 cp3 wq hown hg hat; have HOq := Lib.hid hown; have HGq := Lib.hid hg; have Bq := Lib.hid (push_below BV.out hg OV.out.blk (by omega) (by omega)); have Xq := Lib.hid (push_at XV.out hg OV.out.blk (by omega)); have zq := Bq.out.size; clear hown hg hat c0 c1 c2 f0 f1 f2; obtain ⟨c0, c1, c2, f0, f1, f2⟩ := box3 Xq.out; have lxq := heap_lt Xq.out)
          obtain ⟨ts, hts⟩ : ∃ ts, rd ++ wrL ww = ts := ⟨_, rfl⟩
          have hw1 : wrL ww = [ww] := if_neg HNE.out
          have HTL : Hid (ts.length ≤ rd.length + 1) := by show ts.length ≤ rd.length + 1; rw [← hts, hw1]; simp
          have ov : Own (w.heap.size + 1) 3 1 encI wq (.slice ad3 (rd.length + 1) cp3) ts := by rw [← hts, hw1]; exact HOq.out
          have Oq := Lib.hid ov; clear ov hw1
          have HTS := Lib.hid hts; clear hts
          go_loopw [3, 44] (fun t i wx => ∃ k : Nat, k ≤ q.length ∧ i = .int .i64 k ∧ Own (w.heap.size + 1) 3 1 encI wx t (ts ++ (q.take k).map (·.1)) ∧ Below (w.heap.size + 1) wq wx) (fun _ i _ => q.length - (intOf i).toNat)
          case atStart => exact ⟨0, Nat.zero_le _, rfl, by simpa using Oq.out, Below.refl _ _⟩
          case round =>
            obtain ⟨wx, rfl⟩ : ∃ wx : World, wx = wr := ⟨_, rfl⟩
            obtain ⟨k, hk, rfl, ho, hb⟩ := hrel
            have HO := Lib.hid ho
            have HB := Lib.hid hb; clear hb
            have hz : w.heap.size < wx.heap.size := by have := HB.out.size; omega
            have BW := Lib.hid (Bq.out.trans (HB.out.mono (by omega)))
            have Xx := Lib.hid (below_at' HB.out Xq.out (by omega))
            obtain ⟨c0, c1, c2, f0, f1, f2⟩ := box3 Xx.out
            by_cases hlt : k < q.length
            · obtain ⟨b, o, rfl, hb1, hc1⟩ := R2.out (by omega)
              obtain ⟨x, hx⟩ := get_ex hlt
              have hk1 := (BW.out.cell (p := ⟨b, o + k * 2, none⟩) hb1).trans (hc1 k x hx).1
              have hk2 := (BW.out.cell (p := ⟨b, o + k * 2 + 1, none⟩) hb1).trans (hc1 k x hx).2
              obtain ⟨us, hus⟩ : ∃ us, ts ++ (q.take k).map (·.1) = us := ⟨_, rfl⟩
              have hl : us.length = ts.length + k := by rw [← hus]; simp; omega
              have hL : (us.length + 1) * 8 ≤ 140737488355328 := by have := HTL.out; omega
              have HL := Lib.hid hL; clear hL
              have HLL := Lib.hid hl; clear hl
              rw [hus] at ho
              obtain ⟨ad, cp, rfl⟩ := ho.form
              have HO1 := Lib.hid ho; clear ho
              have HUS := Lib.hid hus; clear hus
              have HX := Lib.hid hx; clear hx hc1
              go_wp2_with (at_builtin; (refine wpList_snoc _ encI_len encI_one rfl _ _ 22 rfl 3 _ 8 Tryd.underlying22 info_int rfl (by decide) (w.heap.size + 1) (.slice ad us.length cp) us rfl (HO1.out.alloc _) x.1 _ rfl _ rfl (by simp) (by decide) HL.out (by omega) ?_); intro ad1 cp1 w3 hown hg hat; have HO3 := Lib.hid hown; have HG3 := Lib.hid hg; clear hown hg hat)
              go_roundw
              case rel =>
                refine ⟨k + 1, by omega, by go_num, ?_, push_below (HB.out.alloc (by omega) _) HG3.out HO1.out.blk (by simp only [szA]; omega) (Nat.le_refl _)⟩
                rw [take_snoc HX.out, List.map_append, ← List.append_assoc, HUS.out]; exact HO3.out
              case measure => simp [intOf]; omega
            · have e : q.take k = q := take_all (by omega)
              rw [e] at ho
              have eall : ts ++ q.map (·.1) = lockAll ⟨rd, ww, q⟩ := by rw [← HTS.out]; rfl
              rw [eall] at ho
              obtain ⟨us, hus⟩ : ∃ us, lockAll ⟨rd, ww, q⟩ = us := ⟨_, rfl⟩
              rw [hus] at ho
              obtain ⟨ad, cp, rfl⟩ := ho.form
              have HO1 := Lib.hid ho; clear ho HO e eall
              have HUS := Lib.hid hus; clear hus
              go_wp2_with (fail)
              refine (distinct_calls _ us _ (HO1.out.row encI_len)).mono ?_
              rintro e w5 ⟨rfl, hb⟩
              have B5 := Lib.hid (BW.out.trans (hb.mono (by omega))); have X5 := Lib.hid (below_at hb Xx.out)
              clear hb c0 c1 c2 f0 f1 f2
              obtain ⟨c0, c1, c2, f0, f1, f2⟩ := box3 X5.out
              cases hd : distB us
              · have HD := Lib.hid hd; clear hd
                go_wp2
                go_ret
                exact ⟨ret_bool (lockB_false.2 (fun k => by have h := HD.out; rw [← HUS.out] at h; simp only [distB, decide_eq_false_iff_not] at h; exact h k.2.2.1)).symm, B5.out⟩
              · have hd2 : distB (lockAll ⟨rd, ww, q⟩) = true := by rw [HUS.out]; exact hd
                have HD := Lib.hid hd2; clear hd2
                have HD0 := Lib.hid hd; clear hd
                by_cases hq : 0 < q.length
                · have dQ := len_ne hq
                  go_wp2
                  go_ret
                  exact ⟨ret_bool (lockB_true.2 (show LockOk ⟨rd, _, q⟩ from ⟨HRS.out, .inr (by have := HR0.out; show rd.length = 0; omega), by have h := HD.out; simpa [distB] using h, .inr (.inl HNE.out)⟩)).symm, B5.out⟩
                · have dQ := len_eq hq
                  go_wp2
                  go_ret
                  exact ⟨ret_bool (lockB_true.2 (show LockOk ⟨rd, _, q⟩ from ⟨HRS.out, .inr (by have := HR0.out; show rd.length = 0; omega), by have h := HD.out; simpa [distB] using h, .inl (by show q.length = 0; omega)⟩)).symm, B5.out⟩
end Go.Proofs.YtbnfhnfnbhigoaaDoor
