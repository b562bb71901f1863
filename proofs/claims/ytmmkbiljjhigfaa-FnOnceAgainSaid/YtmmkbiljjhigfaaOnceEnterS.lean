/- spec.EnterOnce: what it returns (made by gen_enter.py). -/
import Derived.Test.YtmmkbiljjhigfaaOnceEnter
namespace Go.Proofs.Ytmmkbiljjhigfaa
open Go.RowKit
set_option linter.unusedSimpArgs false
set_option linter.unusedVariables false
set_option maxHeartbeats 3200000 in
theorem sEnterOnceO (v : Value) (o : OnceD) (t : Int) (r : OnceD) (i1 : Int) (b1 : Bool) (w : World) (h : OnceRow w v o) (hr : enter o t = (r, i1, b1)) :
    Calls Try.prog 15 #[v, .int .i64 t] w fun e w' => ∃ v', e = .returned (.tuple #[v', .int .i64 i1, .bool b1]) ∧ OnceOwn w.heap.size w'.heap.size w' v' r ∧ Below w.heap.size w w' := by
  have HR := Lib.hid h
  obtain ⟨a3, p3, rfl, r3⟩ := h
  have HI := Lib.hid r3; clear r3
  have hb0 : Below w.heap.size w ((w.alloc (.cells #[.int .i64 o.state, .int .i64 o.owner, .int .i64 o.value, .slice a3 o.waits.length p3] 25)).alloc (.cells #[.int .i64 0, .int .i64 0, .int .i64 0, .slice none 0 0] 25)) := ((Below.refl _ _).alloc (Nat.le_refl _) _).alloc (by simp) _
  have B0 := Lib.hid hb0; clear hb0
  have X0 := Lib.hid (heap_up (B := .cells #[.int .i64 0, .int .i64 0, .int .i64 0, .slice none 0 0] 25) (heap_at w (.cells #[.int .i64 o.state, .int .i64 o.owner, .int .i64 o.value, .slice a3 o.waits.length p3] 25)))
  have Y0 := Lib.hid (heap_at1 w (.cells #[.int .i64 o.state, .int .i64 o.owner, .int .i64 o.value, .slice a3 o.waits.length p3] 25) (.cells #[.int .i64 0, .int .i64 0, .int .i64 0, .slice none 0 0] 25))
  unfold enter at hr
  go_enter Try.func15, Try.ntmps15
  go_wp2_with (fail)
  refine (sOnceValid_calls _ o _ (OnceRow.below HR.out B0.out)).mono ?_
  rintro e w1 ⟨rfl, hb⟩
  have B1 := Lib.hid (B0.out.trans (hb.mono B0.out.size)); have X1 := Lib.hid (below_at hb X0.out); have Y1 := Lib.hid (below_at hb Y0.out)
  clear hb
  obtain ⟨c0, c1, c2, c3, f0, f1, f2, f3⟩ := box4 X1.out; obtain ⟨d0, d1, d2, d3, g0, g1, g2, g3⟩ := box4 Y1.out; have l1 := heap_lt X1.out; have l2 := heap_lt Y1.out
  cases hv : onceB o
  · rw [if_neg (fun k => by rw [hv] at k; cases k.1)] at hr
    injection hr with e1 e2; injection e2 with e2 e3
    subst e1 e2 e3
    clear hv
    go_wp2
    refine bodyPost_ret (v := .tuple #[.agg #[.int .i64 0, .int .i64 0, .int .i64 0, .slice none 0 0], .int .i64 0, .bool false]) (by simp [results, Try.results15, go_sem, d0, d1, d2, d3, l1, l2]) rfl ⟨_, rfl, OnceOwn.nils, (by repeat (first | (with_reducible exact B1.out) | (refine Below.setCell ?_ (by first | omega | (simp only [szA, szS, szD, World.heap_drewN] at * <;> omega)) _) | (refine Below.alloc ?_ (by first | omega | (simp only [szA, szS, szD, World.heap_drewN] at * <;> omega)) _) | refine Below.drew ?_))⟩
  · have HV := Lib.hid hv
    go_wp2_with (fail)
    refine (l1Thread_calls t _).mono ?_
    rintro e w2 ⟨rfl, rfl⟩
    cases ht : thrB t
    · rw [if_neg (fun k => by rw [ht] at k; cases k.2)] at hr
      injection hr with e1 e2; injection e2 with e2 e3
      subst e1 e2 e3
      clear hv ht
      go_wp2
      refine bodyPost_ret (v := .tuple #[.agg #[.int .i64 0, .int .i64 0, .int .i64 0, .slice none 0 0], .int .i64 0, .bool false]) (by simp [results, Try.results15, go_sem, d0, d1, d2, d3, l1, l2]) rfl ⟨_, rfl, OnceOwn.nils, (by repeat (first | (with_reducible exact B1.out) | (refine Below.setCell ?_ (by first | omega | (simp only [szA, szS, szD, World.heap_drewN] at * <;> omega)) _) | (refine Below.alloc ?_ (by first | omega | (simp only [szA, szS, szD, World.heap_drewN] at * <;> omega)) _) | refine Below.drew ?_))⟩
    · rw [if_pos ⟨hv, ht⟩] at hr
      have hl6 := onceB_len hv
      have hs := onceB_st hv
      clear hv ht HV
      obtain ⟨st, ow, va, ws⟩ := o
      dsimp only at *
      rcases hs with ⟨rfl, rfl, rfl, rfl⟩ | ⟨rfl, h2, rfl, h4, h5⟩ | ⟨rfl, h2, h3, rfl⟩
      · rw [if_pos rfl] at hr
        injection hr with e1 e2; injection e2 with e2 e3
        subst e1 e2 e3
        go_wp2_with (fail)
        refine (l2Once_calls _ ⟨0, 0, 0, []⟩ _ (OnceRow.below HR.out B1.out) (by dsimp only; omega)).mono ?_
        rintro e w2 ⟨v2, rfl, ho, hb⟩
        have B2 := Lib.hid (B1.out.trans (hb.mono (by omega))); have X2 := Lib.hid (below_at hb X1.out); have Y2 := Lib.hid (below_at hb Y1.out); have z2 := hb.size
        obtain ⟨ad2, cp2, rfl, ho2, hx⟩ := ho
        have O2 := Lib.hid ho2
        clear hb ho2 hx c0 c1 c2 c3 f0 f1 f2 f3 d0 d1 d2 d3 g0 g1 g2 g3
        obtain ⟨c0, c1, c2, c3, f0, f1, f2, f3⟩ := box4 X2.out; obtain ⟨d0, d1, d2, d3, g0, g1, g2, g3⟩ := box4 Y2.out; have l3 := heap_lt X2.out; have l4 := heap_lt Y2.out
        go_wp2
        refine bodyPost_ret (v := .tuple #[.agg #[.int .i64 1, .int .i64 t, .int .i64 0, .slice none 0 0], .int .i64 0, .bool true]) (by simp [results, Try.results15, go_sem, d0, d1, d2, d3, l3, l4]) rfl ⟨_, rfl, OnceOwn.nils, (by repeat (first | (with_reducible exact B2.out) | (refine Below.setCell ?_ (by first | omega | (simp only [szA, szS, szD, World.heap_drewN] at * <;> omega)) _) | (refine Below.alloc ?_ (by first | omega | (simp only [szA, szS, szD, World.heap_drewN] at * <;> omega)) _) | refine Below.drew ?_))⟩
      · rw [if_neg (by decide), if_neg (by decide)] at hr
        clear h2 h4 h5
        go_wp2_with (fail)
        refine (l2Once_calls _ ⟨1, ow, 0, ws⟩ _ (OnceRow.below HR.out B1.out) (by dsimp only; omega)).mono ?_
        rintro e w2 ⟨v2, rfl, ho, hb⟩
        have B2 := Lib.hid (B1.out.trans (hb.mono (by omega))); have X2 := Lib.hid (below_at hb X1.out); have Y2 := Lib.hid (below_at hb Y1.out); have z2 := hb.size
        obtain ⟨ad2, cp2, rfl, ho2, hx⟩ := ho
        have O2 := Lib.hid ho2
        clear hb ho2 hx c0 c1 c2 c3 f0 f1 f2 f3 d0 d1 d2 d3 g0 g1 g2 g3
        obtain ⟨c0, c1, c2, c3, f0, f1, f2, f3⟩ := box4 X2.out; obtain ⟨d0, d1, d2, d3, g0, g1, g2, g3⟩ := box4 Y2.out; have l3 := heap_lt X2.out; have l4 := heap_lt Y2.out
        by_cases hot : ow = t
        · have dot : (t == ow) = true := by simpa using hot.symm
          rw [if_pos (.inl hot)] at hr
          injection hr with e1 e2; injection e2 with e2 e3
          subst e1 e2 e3
          clear hot
          go_wp2
          refine bodyPost_ret (v := .tuple #[.agg #[.int .i64 0, .int .i64 0, .int .i64 0, .slice none 0 0], .int .i64 0, .bool false]) (by simp [results, Try.results15, go_sem, d0, d1, d2, d3, l3, l4]) rfl ⟨_, rfl, OnceOwn.nils, (by repeat (first | (with_reducible exact B2.out) | (refine Below.setCell ?_ (by first | omega | (simp only [szA, szS, szD, World.heap_drewN] at * <;> omega)) _) | (refine Below.alloc ?_ (by first | omega | (simp only [szA, szS, szD, World.heap_drewN] at * <;> omega)) _) | refine Below.drew ?_))⟩
        · have dot : (t == ow) = false := by simpa using (Ne.symm hot)
          by_cases hin : t ∈ ws
          · rw [if_pos (.inr hin)] at hr
            injection hr with e1 e2; injection e2 with e2 e3
            subst e1 e2 e3
            have hp := place_in hin
            obtain ⟨p, hpe⟩ : ∃ p, place t ws = p := ⟨_, rfl⟩
            rw [hpe] at hp
            have HPE := Lib.hid hpe; clear hpe hot hin
            have dp : decide ((0 : Int) ≤ p) = true := decide_eq_true hp
            go_wp2_with (fail)
            refine (l2At_calls _ ws t _ (Row.below HI.out (B2.out.alloc (by omega) _))).mono ?_
            rintro e w3 ⟨rfl, rfl⟩
            rw [HPE.out]
            go_wp2
            refine bodyPost_ret (v := .tuple #[.agg #[.int .i64 0, .int .i64 0, .int .i64 0, .slice none 0 0], .int .i64 0, .bool false]) (by simp [results, Try.results15, go_sem, d0, d1, d2, d3, l3, l4]) rfl ⟨_, rfl, OnceOwn.nils, (by repeat (first | (with_reducible exact B2.out) | (refine Below.setCell ?_ (by first | omega | (simp only [szA, szS, szD, World.heap_drewN] at * <;> omega)) _) | (refine Below.alloc ?_ (by first | omega | (simp only [szA, szS, szD, World.heap_drewN] at * <;> omega)) _) | refine Below.drew ?_))⟩
          · rw [if_neg (fun k => k.elim hot hin)] at hr
            injection hr with e1 e2; injection e2 with e2 e3
            subst e1 e2 e3
            have HPE := Lib.hid (place_out hin)
            clear hot hin
            have hL : (ws.length + 1) * 8 ≤ 140737488355328 := by omega
            have HL := Lib.hid hL; clear hL
            go_wp2_with (fail)
            refine (l2At_calls _ ws t _ (Row.below HI.out (B2.out.alloc (by omega) _))).mono ?_
            rintro e w3 ⟨rfl, rfl⟩
            rw [HPE.out]
            have OA := Lib.hid (O2.out.alloc (.cells #[.int .i64 1, .int .i64 ow, .int .i64 0, .slice ad2 ws.length cp2] 25))
            have BA := Lib.hid (B2.out.alloc (by omega) (.cells #[.int .i64 1, .int .i64 ow, .int .i64 0, .slice ad2 ws.length cp2] 25))
            have YA := Lib.hid (heap_up (B := .cells #[.int .i64 1, .int .i64 ow, .int .i64 0, .slice ad2 ws.length cp2] 25) Y2.out)
            have QA := Lib.hid (heap_at w2 (.cells #[.int .i64 1, .int .i64 ow, .int .i64 0, .slice ad2 ws.length cp2] 25))
            go_wp2_with (at_builtin; (refine wpList_snoc _ encI_len encI_one rfl _ _ 23 rfl 3 _ 8 Try.underlying23 info_int rfl (by decide) w1.heap.size (.slice ad2 ws.length cp2) ws rfl OA.out t _ rfl (w2.heap.size + 1) rfl (by simp) (by decide) HL.out (by omega) ?_); intro ad3 cp3 w4 hown hg hat; have O3 := Lib.hid hown; have B3 := Lib.hid (push_below BA.out hg OA.out.blk (by simp only [szA]; omega) (by omega)); have Y3 := Lib.hid (push_at YA.out hg OA.out.blk (by omega)); have Q3 := Lib.hid (push_at2 QA.out hg (OA.out.ne QA.out (by decide))); clear hown hg hat c0 c1 c2 c3 f0 f1 f2 f3 d0 d1 d2 d3 g0 g1 g2 g3; obtain ⟨c0, c1, c2, c3, f0, f1, f2, f3⟩ := box4 Q3.out; obtain ⟨d0, d1, d2, d3, g0, g1, g2, g3⟩ := box4 Y3.out; have l5 := heap_lt Q3.out; have l6 := heap_lt Y3.out)
            have ON := Lib.hid (O3.out.ne Q3.out (by decide)); have OY := Lib.hid (O3.out.ne Y3.out (by decide))
            have nn : w.heap.size + 1 ≠ w2.heap.size := by omega
            have nn2 : w2.heap.size ≠ w.heap.size + 1 := by omega
            refine bodyPost_ret (v := .tuple #[.agg #[.int .i64 1, .int .i64 ow, .int .i64 0, .slice ad3 (ws.length + 1) cp3], .int .i64 1, .bool true]) (by simp [results, Try.results15, go_sem, d0, d1, d2, d3, l5, l6, nn, nn2]) rfl ?_
            have o4 : Own w1.heap.size 3 1 encI w4 (.slice ad3 (ws.length + 1) cp3) (ws ++ [t]) := O3.out
            have OE := Lib.hid (Own.setAt (Own.setAt (Own.setAt (Own.setAt (Own.set_off o4 (a := ⟨w2.heap.size, 3, none⟩) ON.out (.slice ad3 (ws.length + 1) cp3)) (w.heap.size + 1) 0 (by omega) (.int .i64 1)) (w.heap.size + 1) 1 (by omega) (.int .i64 ow)) (w.heap.size + 1) 2 (by omega) (.int .i64 0)) (w.heap.size + 1) 3 (by omega) (.slice ad3 (ws.length + 1) cp3))
            have BE := Lib.hid (below_setAt (below_setAt (below_setAt (below_setAt (below_setAt B3.out w2.heap.size 3 (by omega) (.slice ad3 (ws.length + 1) cp3)) (w.heap.size + 1) 0 (by omega) (.int .i64 1)) (w.heap.size + 1) 1 (by omega) (.int .i64 ow)) (w.heap.size + 1) 2 (by omega) (.int .i64 0)) (w.heap.size + 1) 3 (by omega) (.slice ad3 (ws.length + 1) cp3))
            exact ⟨_, rfl, OnceOwn.of (OE.out.mono (by omega)) (Nat.le_refl _), BE.out⟩
      · rw [if_neg (by decide), if_pos rfl] at hr
        injection hr with e1 e2; injection e2 with e2 e3
        subst e1 e2 e3
        clear h2 h3
        go_wp2_with (fail)
        refine (l2Once_calls _ ⟨2, ow, va, []⟩ _ (OnceRow.below HR.out B1.out) (by dsimp only; omega)).mono ?_
        rintro e w2 ⟨v2, rfl, ho, hb⟩
        have B2 := Lib.hid (B1.out.trans (hb.mono (by omega))); have X2 := Lib.hid (below_at hb X1.out); have Y2 := Lib.hid (below_at hb Y1.out); have z2 := hb.size
        obtain ⟨ad2, cp2, rfl, ho2, hx⟩ := ho
        have O2 := Lib.hid ho2
        clear hb ho2 hx c0 c1 c2 c3 f0 f1 f2 f3 d0 d1 d2 d3 g0 g1 g2 g3
        obtain ⟨c0, c1, c2, c3, f0, f1, f2, f3⟩ := box4 X2.out; obtain ⟨d0, d1, d2, d3, g0, g1, g2, g3⟩ := box4 Y2.out; have l3 := heap_lt X2.out; have l4 := heap_lt Y2.out
        go_wp2
        refine bodyPost_ret (v := .tuple #[.agg #[.int .i64 2, .int .i64 ow, .int .i64 va, .slice ad2 0 cp2], .int .i64 2, .bool true]) (by simp [results, Try.results15, go_sem, d0, d1, d2, d3, l3, l4]) rfl ?_
        have OE := Lib.hid (Own.alloc (Own.setAt (Own.setAt (Own.setAt (Own.setAt O2.out (w.heap.size + 1) 0 (by omega) (.int .i64 2)) (w.heap.size + 1) 1 (by omega) (.int .i64 ow)) (w.heap.size + 1) 2 (by omega) (.int .i64 va)) (w.heap.size + 1) 3 (by omega) (.slice ad2 0 cp2)) (.cells #[.int .i64 2, .int .i64 ow, .int .i64 va, .slice ad2 0 cp2] 25))
        have BE := Lib.hid (Below.alloc (below_setAt (below_setAt (below_setAt (below_setAt B2.out (w.heap.size + 1) 0 (by omega) (.int .i64 2)) (w.heap.size + 1) 1 (by omega) (.int .i64 ow)) (w.heap.size + 1) 2 (by omega) (.int .i64 va)) (w.heap.size + 1) 3 (by omega) (.slice ad2 0 cp2)) (by simp only [szS]; omega) (.cells #[.int .i64 2, .int .i64 ow, .int .i64 va, .slice ad2 0 cp2] 25))
        exact ⟨_, rfl, OnceOwn.of (OE.out.mono (by omega)) (Nat.le_refl _), BE.out⟩
end Go.Proofs.Ytmmkbiljjhigfaa
