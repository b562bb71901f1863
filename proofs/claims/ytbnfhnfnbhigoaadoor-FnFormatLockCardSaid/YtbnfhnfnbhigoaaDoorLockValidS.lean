/- spec.LockValid: what it returns (made by gen_lockvalid.py). -/
import Derived.Test.YtbnfhnfnbhigoaaDoorLockPlain
namespace Go.Proofs.YtbnfhnfnbhigoaaDoor
open Go.RowKit
set_option linter.unusedSimpArgs false
set_option linter.unusedVariables false
set_option maxHeartbeats 3200000 in
theorem sLockValid_calls (v : Value) (l : LockD) (w : World) (h : LockRow w v l) (hn : l.readers.length + l.q.length ≤ 1048576) :
    Calls Tryd.prog 21 #[v] w fun e w' => e = .returned (.bool (lockB l)) ∧ Below w.heap.size w w' := by
  obtain ⟨rd, ww, q⟩ := l
  obtain ⟨a0, p0, a2, p2, rfl, r0, r2⟩ := h
  dsimp only at r0 r2 hn ⊢
  have HW := Lib.hid r2
  have HI := Lib.hid r0
  obtain ⟨x1, y1, e, l1, m1, r0⟩ := IRow.look r0
  injection e with e1 e2 e3
  subst e1 e3
  obtain ⟨x2, y2, e, l2, m2, r2⟩ := WRow.look r2
  injection e with e1 e2 e3
  subst e1 e3
  have R0 := Lib.hid r0; clear r0
  have R2 := Lib.hid r2; clear r2
  have n1 : rd.length ≤ 9223372036854775807 := by omega
  have n2 : q.length ≤ 9223372036854775807 := by omega
  have X0 := Lib.hid (heap_at w (.cells #[.slice a0 rd.length p0, .int .i64 ww, .slice a2 q.length p2] 30))
  have B00 := Lib.hid ((Below.refl w.heap.size w).alloc (Nat.le_refl _) (.cells #[.slice a0 rd.length p0, .int .i64 ww, .slice a2 q.length p2] 30))
  by_cases h6 : rd.length ≤ 6
  · by_cases h7 : q.length ≤ 6
    · have d6 : decide ((6 : Int) < (rd.length : Int)) = false := by simp; omega
      have d7 : decide ((6 : Int) < (q.length : Int)) = false := by simp; omega
      go_enter Tryd.func21, Tryd.ntmps21
      go_wp2_with (fail)
      refine (l4Rises_calls _ rd _ (Row.below HI.out B00.out)).mono ?_
      rintro e w1 ⟨rfl, hb⟩
      have B1 := Lib.hid (B00.out.trans (hb.mono (by simp only [szA]; omega))); have X1 := Lib.hid (below_at hb X0.out)
      clear hb
      obtain ⟨c0, c1, c2, f0, f1, f2⟩ := box3 X1.out; have lx1 := heap_lt X1.out
      cases hr : riseB rd
      · have HRS := Lib.hid hr; clear hr
        go_wp2
        go_ret
        exact ⟨ret_bool (lockB_false.2 (fun k => by have h := k.1; rw [show ((⟨rd, ww, q⟩ : LockD)).readers = rd from rfl, HRS.out] at h; cases h)).symm, B1.out⟩
      · have HRS := Lib.hid hr; clear hr
        have et : (q.take 7).map (·.1) = q.map (·.1) := by rw [take_all (by omega)]
        obtain ⟨ts, hts⟩ : ∃ ts, (q.take 7).map (·.1) = ts := ⟨_, rfl⟩
        have htl : ts.length = q.length := by rw [← hts, et]; simp
        have hl8 : rd.length * 8 ≤ 140737488355328 := by omega
        have hl9 : (rd.length + ts.length) * 8 ≤ 140737488355328 := by omega
        have HTQ := Lib.hid hts
        have HTE : Hid (ts = q.map (·.1)) := by show ts = _; rw [← hts, et]
        have HL8 := Lib.hid hl8; have HL9 := Lib.hid hl9; have HTL := Lib.hid htl
        clear hts et hl8 hl9 htl
        have nx1 : w1.heap.size ≠ w.heap.size := by omega
        go_wp2
        go_region_held3 (fun w' => w'.cell? ⟨w.heap.size, 0, none⟩ = some (.slice a0 rd.length p0) ∧ w'.cell? ⟨w.heap.size, 2, none⟩ = some (.slice a2 q.length p2)) (go_keep)
          (first
            | (go_at_call 41; refine (l4Queue_calls _ q _ ?hq).mono ?_; (case hq => exact Row.below HW.out (by repeat (first | (with_reducible exact BQ.out) | (with_reducible exact BC.out) | (with_reducible exact B1.out) | (refine Below.alloc ?_ (by first | omega | (simp only [szA, szD]; omega)) _) | refine Below.drew ?_))); rintro e wq ⟨vq, rfl, hoq, hbq⟩; rw [HTQ.out] at hoq; have BQ := Lib.hid (Below.trans (B := w.heap.size) (a := w) (by repeat (first | (with_reducible exact BQ.out) | (with_reducible exact BC.out) | (with_reducible exact B1.out) | (refine Below.alloc ?_ (by first | omega | (simp only [szA, szD]; omega)) _) | refine Below.drew ?_)) (hbq.mono (by first | omega | (simp only [szA, szD]; omega)))); have XQ := Lib.hid (below_at hbq (by first | exact XC.out | exact XQ.out | exact X1.out | exact heap_up X1.out)); have OQ := Lib.hid hoq.own; (obtain ⟨adq, cpq, rfl, hxq⟩ := hoq); clear hxq; (try (have EQ := Lib.hid (below_at hbq (heap_at w1 _)))); (try (have OC2 := Lib.hid (OC.out.kept hbq))); have ZQ : w1.heap.size ≤ wq.heap.size := (by have h := hbq.size; first | exact h | omega | (simp only [szA, szD] at h; omega)); clear hbq; obtain ⟨c10, c11, c12, f10, f11, f12⟩ := box3 XQ.out; have lxq := heap_lt XQ.out; have nxq : wq.heap.size ≠ w.heap.size := (by omega))
            | (refine step_clone _ encI_len encI_one (by rfl) _ _ 22 (by rfl) 3 _ 8 Tryd.underlying22 info_int rfl (by decide) w1.heap.size _ (by rfl) (by first | exact EQ.out | exact heap_at wq _ | exact heap_at w1 _) (by first | exact Nat.le_refl _ | exact ZQ) (.slice a0 rd.length p0) rd (by rfl) (by exact Row.below HI.out (by repeat (first | (with_reducible exact BQ.out) | (with_reducible exact BC.out) | (with_reducible exact B1.out) | (refine Below.alloc ?_ (by first | omega | (simp only [szA, szD]; omega)) _) | refine Below.drew ?_))) (by decide) HL8.out ?_; intro adc cpc wc hown hg; have OC := Lib.hid hown; have BC := Lib.hid (Below.trans (B := w.heap.size) (a := w) (by repeat (first | (with_reducible exact BQ.out) | (with_reducible exact BC.out) | (with_reducible exact B1.out) | (refine Below.alloc ?_ (by first | omega | (simp only [szA, szD]; omega)) _) | refine Below.drew ?_)) (grown_below hg (by first | omega | (simp only [szA, szD]; omega)) (fun g e => (by simp only [Option.some.injEq] at e; omega)))); have XC := Lib.hid (grow_at hg (by first | exact XQ.out | exact heap_up XQ.out | exact X1.out | exact heap_up X1.out) (by simp only [ne_eq, Option.some.injEq]; omega)); (try (have OQ2 := Lib.hid (Own.growns (by first | exact OQ.out | exact OQ.out.alloc _) hg (.inr (by intro e; have h := OQ.out.block _ e; first | omega | (simp only [szA, szD] at h; omega)))))); have ZC : w1.heap.size ≤ wc.heap.size := (by have h := hg.size; first | omega | (simp only [szA, szD] at h; omega)); clear hown hg; obtain ⟨c20, c21, c22, f20, f21, f22⟩ := box3 XC.out; have lxc := heap_lt XC.out)
            | (refine step_join _ encI_len encI_one (by rfl) _ _ 22 (by rfl) 3 _ 8 Tryd.underlying22 info_int rfl (by decide) w1.heap.size (.slice adc rd.length cpc) rd (by rfl) (by first | exact OC2.out | exact OC.out) (by first | exact ZC | exact ZQ) (.slice adq ts.length cpq) ts (by rfl) (by first | exact OQ2.out.row encI_len | exact OQ.out.row encI_len) (by decide) HL9.out ?_; intro adj cpj wj hown hg; have OJ := Lib.hid hown; have BJ := Lib.hid (Below.trans (B := w.heap.size) (a := w) (by first | exact BQ.out | exact BC.out) (grown_below hg (by omega) (fun g e => (by have h := OC.out.block g e; omega)))); have XJ := Lib.hid (grow_at hg (by first | exact XC.out | exact XQ.out) (by first | exact OC2.out.ne XQ.out (by decide) | exact OC.out.ne XC.out (by decide))); have ZJ := BJ.out.size; have ZJ1 : w1.heap.size ≤ wj.heap.size := (by have h := hg.size; omega); clear hown hg; obtain ⟨c30, c31, c32, f30, f31, f32⟩ := box3 XJ.out; have lxj := heap_lt XJ.out))
        all_goals
          clear c0 c1 c2 f0 f1 f2 c10 c11 c12 f10 f11 f12 c20 c21 c22 f20 f21 f22
          by_cases hw : ww = -1
          · subst hw
            obtain ⟨us, hus⟩ : ∃ us, rd ++ q.map (·.1) ++ wrL (-1) = us := ⟨_, rfl⟩
            have eus : rd ++ ts = us := by rw [← hus, HTE.out]; simp [wrL]
            have ov : Own w1.heap.size 3 1 encI wj (.slice adj (rd.length + ts.length) cpj) us := by rw [← eus]; exact OJ.out
            have OU := Lib.hid ov; clear ov eus
            have HUS := Lib.hid hus; clear hus
            have BU := BJ; have XU := XJ
            have c0 := c30; have c1 := c31; have c2 := c32; have f0 := f30; have f1 := f31; have f2 := f32
            clear c30 c31 c32 f30 f31 f32
            go_wp2_with (fail)
            refine (l2Waits_calls _ us _ (OU.out.row encI_len)).mono ?_
            rintro e w5 ⟨rfl, hb⟩
            have B5 := Lib.hid (BU.out.trans (hb.mono (by omega))); have X5 := Lib.hid (below_at hb XU.out)
            clear hb c0 c1 c2 f0 f1 f2
            obtain ⟨c0, c1, c2, f0, f1, f2⟩ := box3 X5.out
            cases hd : distB us
            · have HD := Lib.hid hd; clear hd
              go_wp2
              go_ret
              exact ⟨ret_bool (lockB_false.2 (fun k => by have h := HD.out; rw [← HUS.out] at h; simp only [distB, decide_eq_false_iff_not] at h; exact h (Distinct.perm (show Distinct (rd ++ wrL (-1) ++ q.map (·.1)) from k.2.2.1) (lock_perm rd (q.map (·.1)) (-1)).symm))).symm, B5.out⟩
            · have hd2 : distB (lockAll ⟨rd, (-1), q⟩) = true := by rw [show lockAll ⟨rd, (-1), q⟩ = rd ++ wrL (-1) ++ q.map (·.1) from rfl, ← distB_perm (lock_perm rd (q.map (·.1)) (-1)), HUS.out]; exact hd
              have HD := Lib.hid hd2; clear hd2
              have HD0 := Lib.hid hd; clear hd
              by_cases hq : 0 < q.length
              · have dQ := len_ne hq
                obtain ⟨b, o, rfl, hb1, hc1⟩ := R2.out hq
                obtain ⟨x, hx⟩ := get_ex hq
                have k2 := (B5.out.cell (p := ⟨b, o + 1, none⟩) hb1).trans (by simpa using (hc1 0 x hx).2)
                have HX := Lib.hid hx; clear hx hc1
                obtain ⟨xt, xw⟩ := x
                dsimp only at k2 HX
                cases xw
                · go_wp2
                  go_ret
                  exact ⟨ret_bool (lockB_false.2 (show ¬ LockOk ⟨rd, _, q⟩ from fun k => by have t : LockTail rd _ q := k.2.2.2; rcases t with t | t | t; exact absurd t (by omega); exact t rfl; have h := t.1; rw [HX.out] at h; simp at h)).symm, B5.out⟩
                · by_cases h0 : 0 < rd.length
                  · have d0 : decide ((0 : Int) < (rd.length : Int)) = true := decide_eq_true (by omega)
                    go_wp2
                    go_ret
                    exact ⟨ret_bool (lockB_true.2 (show LockOk ⟨rd, _, q⟩ from ⟨HRS.out, .inl rfl, by have h := HD.out; simpa [distB] using h, .inr (.inr ⟨by rw [HX.out]; rfl, h0⟩)⟩)).symm, B5.out⟩
                  · have d0 : decide ((0 : Int) < (rd.length : Int)) = false := decide_eq_false (by omega)
                    go_wp2
                    go_ret
                    exact ⟨ret_bool (lockB_false.2 (show ¬ LockOk ⟨rd, _, q⟩ from fun k => by have t : LockTail rd _ q := k.2.2.2; rcases t with t | t | t; exact absurd t (by omega); exact t rfl; exact h0 t.2)).symm, B5.out⟩
              · have dQ := len_eq hq
                go_wp2
                go_ret
                exact ⟨ret_bool (lockB_true.2 (show LockOk ⟨rd, _, q⟩ from ⟨HRS.out, .inl rfl, by have h := HD.out; simpa [distB] using h, .inl (by show q.length = 0; omega)⟩)).symm, B5.out⟩
          · have HNE := Lib.hid hw
            have dW : (ww != -1) = true := by simpa using hw
            clear hw
            obtain ⟨zs, hzs⟩ : ∃ zs, rd ++ ts = zs := ⟨_, rfl⟩
            have hzl : zs.length = rd.length + ts.length := by rw [← hzs]; simp
            have hL1 : (zs.length + 1) * 8 ≤ 140737488355328 := by have := HTL.out; omega
            have HL1 := Lib.hid hL1; clear hL1
            have oz : Own w1.heap.size 3 1 encI wj (.slice adj (rd.length + ts.length) cpj) zs := by rw [← hzs]; exact OJ.out
            have OZ := Lib.hid oz; clear oz
            have HZL := Lib.hid hzl; have HZS := Lib.hid hzs; clear hzl hzs
            go_wp2_with (at_builtin; (refine wpList_snoc _ encI_len encI_one rfl _ _ 22 rfl 3 _ 8 Tryd.underlying22 info_int rfl (by decide) w1.heap.size (.slice adj (rd.length + ts.length) cpj) zs rfl OZ.out ww _ rfl _ rfl rfl (by decide) HL1.out (by omega) ?_); intro adu cpu wu hown hg hat; have HOu := Lib.hid hown; have BU := Lib.hid (push_below BJ.out hg OZ.out.blk (by omega) (by omega)); have XU := Lib.hid (push_at XJ.out hg OZ.out.blk (by omega)); have zu := BU.out.size; clear hown hg hat c30 c31 c32 f30 f31 f32; obtain ⟨c0, c1, c2, f0, f1, f2⟩ := box3 XU.out; have lxu := heap_lt XU.out)
            obtain ⟨us, hus⟩ : ∃ us, rd ++ q.map (·.1) ++ wrL ww = us := ⟨_, rfl⟩
            have eus : zs ++ [ww] = us := by rw [← hus, ← HZS.out, HTE.out, show wrL ww = [ww] from if_neg HNE.out]
            have ov : Own w1.heap.size 3 1 encI wu (.slice adu (zs.length + 1) cpu) us := by rw [← eus]; exact HOu.out
            have OU := Lib.hid ov; clear ov eus
            have HUS := Lib.hid hus; clear hus
            go_wp2_with (fail)
            refine (l2Waits_calls _ us _ (OU.out.row encI_len)).mono ?_
            rintro e w5 ⟨rfl, hb⟩
            have B5 := Lib.hid (BU.out.trans (hb.mono (by omega))); have X5 := Lib.hid (below_at hb XU.out)
            clear hb c0 c1 c2 f0 f1 f2
            obtain ⟨c0, c1, c2, f0, f1, f2⟩ := box3 X5.out
            cases hd : distB us
            · have HD := Lib.hid hd; clear hd
              go_wp2
              go_ret
              exact ⟨ret_bool (lockB_false.2 (fun k => by have h := HD.out; rw [← HUS.out] at h; simp only [distB, decide_eq_false_iff_not] at h; exact h (Distinct.perm (show Distinct (rd ++ wrL ww ++ q.map (·.1)) from k.2.2.1) (lock_perm rd (q.map (·.1)) ww).symm))).symm, B5.out⟩
            · have hd2 : distB (lockAll ⟨rd, ww, q⟩) = true := by rw [show lockAll ⟨rd, ww, q⟩ = rd ++ wrL ww ++ q.map (·.1) from rfl, ← distB_perm (lock_perm rd (q.map (·.1)) ww), HUS.out]; exact hd
              have HD := Lib.hid hd2; clear hd2
              have HD0 := Lib.hid hd; clear hd
              by_cases h0 : 0 < rd.length
              · have d0 : decide ((0 : Int) < (rd.length : Int)) = true := decide_eq_true (by omega)
                go_wp2
                go_ret
                exact ⟨ret_bool (lockB_false.2 (show ¬ LockOk ⟨rd, ww, q⟩ from fun k => by rcases k.2.1 with h | h; exact HNE.out h; exact absurd (show rd.length = 0 from h) (by omega))).symm, B5.out⟩
              · have d0 : decide ((0 : Int) < (rd.length : Int)) = false := decide_eq_false (by omega)
                have HR0 := Lib.hid h0; clear h0
                by_cases hq : 0 < q.length
                · have dQ := len_ne hq
                  go_wp2
                  go_ret
                  exact ⟨ret_bool (lockB_true.2 (show LockOk ⟨rd, _, q⟩ from ⟨HRS.out, .inr (by have := HR0.out; show rd.length = 0; omega), by have h := HD.out; simpa [distB] using h, .inr (.inl HNE.out)⟩)).symm, B5.out⟩
                · have dQ := len_eq hq
                  go_wp2
                  go_ret
                  exact ⟨ret_bool (lockB_true.2 (show LockOk ⟨rd, _, q⟩ from ⟨HRS.out, .inr (by have := HR0.out; show rd.length = 0; omega), by have h := HD.out; simpa [distB] using h, .inl (by show q.length = 0; omega)⟩)).symm, B5.out⟩
    · have d6 : decide ((6 : Int) < (rd.length : Int)) = false := by simp; omega
      have d7 : decide ((6 : Int) < (q.length : Int)) = true := by simp; omega
      go_enter Tryd.func21, Tryd.ntmps21
      go_wp2
      go_ret
      exact ⟨ret_bool (lockB_false.2 (fun k => by have := k.small; simp only at this; omega)).symm, B00.out⟩
  · have d6 : decide ((6 : Int) < (rd.length : Int)) = true := by simp; omega
    go_enter Tryd.func21, Tryd.ntmps21
    go_wp2
    go_ret
    exact ⟨ret_bool (lockB_false.2 (fun k => by have := k.small; simp only at this; omega)).symm, B00.out⟩
end Go.Proofs.YtbnfhnfnbhigoaaDoor
