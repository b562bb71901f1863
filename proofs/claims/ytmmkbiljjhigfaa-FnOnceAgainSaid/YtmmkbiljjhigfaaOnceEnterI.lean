/- impl.EnterOnce: what it returns (made by gen_enter.py). -/
import Derived.Test.YtmmkbiljjhigfaaOnceEnter
namespace Go.Proofs.Ytmmkbiljjhigfaa
open Go.RowKit
set_option linter.unusedSimpArgs false
set_option linter.unusedVariables false
set_option maxHeartbeats 3200000 in
theorem EnterOnceO (v : Value) (o : OnceD) (t : Int) (r : OnceD) (i1 : Int) (b1 : Bool) (w : World) (h : OnceRow w v o) (hr : enter o t = (r, i1, b1)) :
    Calls Try.prog 14 #[v, .int .i64 t] w fun e w' => ∃ v', e = .returned (.tuple #[v', .int .i64 i1, .bool b1]) ∧ OnceOwn w.heap.size w'.heap.size w' v' r ∧ Below w.heap.size w w' := by
  have HR := Lib.hid h
  obtain ⟨a3, p3, rfl, r3⟩ := h
  have HI := Lib.hid r3; clear r3
  have hb0 : Below w.heap.size w ((w.alloc (.cells #[.int .i64 o.state, .int .i64 o.owner, .int .i64 o.value, .slice a3 o.waits.length p3] 25)).alloc (.cells #[.int .i64 0, .int .i64 0, .int .i64 0, .slice none 0 0] 25)) := ((Below.refl _ _).alloc (Nat.le_refl _) _).alloc (by simp) _
  have B0 := Lib.hid hb0; clear hb0
  have X0 := Lib.hid (heap_up (B := .cells #[.int .i64 0, .int .i64 0, .int .i64 0, .slice none 0 0] 25) (heap_at w (.cells #[.int .i64 o.state, .int .i64 o.owner, .int .i64 o.value, .slice a3 o.waits.length p3] 25)))
  have Y0 := Lib.hid (heap_at1 w (.cells #[.int .i64 o.state, .int .i64 o.owner, .int .i64 o.value, .slice a3 o.waits.length p3] 25) (.cells #[.int .i64 0, .int .i64 0, .int .i64 0, .slice none 0 0] 25))
  unfold enter at hr
  go_enter Try.func14, Try.ntmps14
  go_wp2_with (fail)
  refine (OnceValid_calls _ o _ (OnceRow.below HR.out B0.out)).mono ?_
  rintro e w1 ⟨rfl, hb⟩
  have B1 := Lib.hid (B0.out.trans (hb.mono B0.out.size)); have X1 := Lib.hid (below_at hb X0.out); have Y1 := Lib.hid (below_at hb Y0.out)
  clear hb
  obtain ⟨c0, c1, c2, c3, f0, f1, f2, f3⟩ := box4 X1.out; obtain ⟨d0, d1, d2, d3, g0, g1, g2, g3⟩ := box4 Y1.out; have l1 := heap_lt X1.out; have l2 := heap_lt Y1.out
  cases hv : onceB o
  · rw [if_neg (fun k => by rw [hv] at k; cases k.1)] at hr
    injection hr with e1 e2; injection e2 with e2 e3
    subst e1 e2 e3
    clear hv
    go_wp2
    refine bodyPost_ret (v := .tuple #[.agg #[.int .i64 0, .int .i64 0, .int .i64 0, .slice none 0 0], .int .i64 0, .bool false]) (by simp [results, Try.results14, go_sem, d0, d1, d2, d3, l1, l2]) rfl ⟨_, rfl, OnceOwn.nils, (by repeat (first | (with_reducible exact B1.out) | (refine Below.setCell ?_ (by first | omega | (simp only [szA, szS, szD, World.heap_drewN] at * <;> omega)) _) | (refine Below.alloc ?_ (by first | omega | (simp only [szA, szS, szD, World.heap_drewN] at * <;> omega)) _) | refine Below.drew ?_))⟩
  · have HV := Lib.hid hv
    go_wp2_with (fail)
    refine (isThread_calls t _).mono ?_
    rintro e w2 ⟨rfl, rfl⟩
    cases ht : thrB t
    · rw [if_neg (fun k => by rw [ht] at k; cases k.2)] at hr
      injection hr with e1 e2; injection e2 with e2 e3
      subst e1 e2 e3
      clear hv ht
      go_wp2
      refine bodyPost_ret (v := .tuple #[.agg #[.int .i64 0, .int .i64 0, .int .i64 0, .slice none 0 0], .int .i64 0, .bool false]) (by simp [results, Try.results14, go_sem, d0, d1, d2, d3, l1, l2]) rfl ⟨_, rfl, OnceOwn.nils, (by repeat (first | (with_reducible exact B1.out) | (refine Below.setCell ?_ (by first | omega | (simp only [szA, szS, szD, World.heap_drewN] at * <;> omega)) _) | (refine Below.alloc ?_ (by first | omega | (simp only [szA, szS, szD, World.heap_drewN] at * <;> omega)) _) | refine Below.drew ?_))⟩
    · rw [if_pos ⟨hv, ht⟩] at hr
      have hl6 := onceB_len hv
      have hs := onceB_st hv
      clear hv ht HV
      obtain ⟨st, ow, va, ws⟩ := o
      dsimp only at *
      rcases hs with ⟨rfl, rfl, rfl, rfl⟩ | ⟨rfl, h2, rfl, h4, h5⟩ | ⟨rfl, h2, h3, rfl⟩
      · rw [if_pos rfl] at hr
        injection hr with e1 e2; injection e2 with e2 e3
        subst e1 e2 e3
        go_wp2
        refine bodyPost_ret (v := .tuple #[.agg #[.int .i64 1, .int .i64 t, .int .i64 0, .slice none 0 0], .int .i64 0, .bool true]) (by simp [results, Try.results14, go_sem, d0, d1, d2, d3, l1, l2]) rfl ⟨_, rfl, OnceOwn.nils, (by repeat (first | (with_reducible exact B1.out) | (refine Below.setCell ?_ (by first | omega | (simp only [szA, szS, szD, World.heap_drewN] at * <;> omega)) _) | (refine Below.alloc ?_ (by first | omega | (simp only [szA, szS, szD, World.heap_drewN] at * <;> omega)) _) | refine Below.drew ?_))⟩
      · rw [if_neg (by decide), if_neg (by decide)] at hr
        clear h2 h4 h5
        by_cases hot : ow = t
        · have dot : (ow == t) = true := by simpa using hot
          rw [if_pos (.inl hot)] at hr
          injection hr with e1 e2; injection e2 with e2 e3
          subst e1 e2 e3
          clear hot
          go_wp2
          refine bodyPost_ret (v := .tuple #[.agg #[.int .i64 0, .int .i64 0, .int .i64 0, .slice none 0 0], .int .i64 0, .bool false]) (by simp [results, Try.results14, go_sem, d0, d1, d2, d3, l1, l2]) rfl ⟨_, rfl, OnceOwn.nils, (by repeat (first | (with_reducible exact B1.out) | (refine Below.setCell ?_ (by first | omega | (simp only [szA, szS, szD, World.heap_drewN] at * <;> omega)) _) | (refine Below.alloc ?_ (by first | omega | (simp only [szA, szS, szD, World.heap_drewN] at * <;> omega)) _) | refine Below.drew ?_))⟩
        · have dot : (ow == t) = false := by simpa using hot
          go_wp2_with (fail)
          refine (ContainsI_calls _ ws t _ (Row.below HI.out B1.out)).mono ?_
          rintro e w2 ⟨rfl, rfl⟩
          by_cases hin : t ∈ ws
          · rw [if_pos (.inr hin)] at hr
            injection hr with e1 e2; injection e2 with e2 e3
            subst e1 e2 e3
            rw [decide_eq_true hin]
            clear hot hin
            go_wp2
            refine bodyPost_ret (v := .tuple #[.agg #[.int .i64 0, .int .i64 0, .int .i64 0, .slice none 0 0], .int .i64 0, .bool false]) (by simp [results, Try.results14, go_sem, d0, d1, d2, d3, l1, l2]) rfl ⟨_, rfl, OnceOwn.nils, (by repeat (first | (with_reducible exact B1.out) | (refine Below.setCell ?_ (by first | omega | (simp only [szA, szS, szD, World.heap_drewN] at * <;> omega)) _) | (refine Below.alloc ?_ (by first | omega | (simp only [szA, szS, szD, World.heap_drewN] at * <;> omega)) _) | refine Below.drew ?_))⟩
          · rw [if_neg (fun k => k.elim hot hin)] at hr
            injection hr with e1 e2; injection e2 with e2 e3
            subst e1 e2 e3
            rw [decide_eq_false hin]
            clear hot hin
            go_wp2_with (fail)
            refine (onceClone_calls _ ⟨1, ow, 0, ws⟩ _ (OnceRow.below HR.out B1.out) (by dsimp only; omega)).mono ?_
            rintro e w2 ⟨v2, rfl, ho, hb⟩
            have B2 := Lib.hid (B1.out.trans (hb.mono (by omega))); have X2 := Lib.hid (below_at hb X1.out); have Y2 := Lib.hid (below_at hb Y1.out); have z2 := hb.size
            obtain ⟨ad2, cp2, rfl, ho2, hx⟩ := ho
            have O2 := Lib.hid ho2
            clear hb ho2 hx c0 c1 c2 c3 f0 f1 f2 f3 d0 d1 d2 d3 g0 g1 g2 g3
            obtain ⟨c0, c1, c2, c3, f0, f1, f2, f3⟩ := box4 X2.out; obtain ⟨d0, d1, d2, d3, g0, g1, g2, g3⟩ := box4 Y2.out; have l3 := heap_lt X2.out; have l4 := heap_lt Y2.out
            have hL : (ws.length + 1) * 8 ≤ 140737488355328 := by omega
            have HL := Lib.hid hL; clear hL
            have OP := Lib.hid (Own.setAt (Own.setAt (Own.setAt (Own.setAt O2.out w.heap.size 0 (by omega) (.int .i64 1)) w.heap.size 1 (by omega) (.int .i64 ow)) w.heap.size 2 (by omega) (.int .i64 0)) w.heap.size 3 (by omega) (.slice ad2 ws.length cp2))
            have BP := Lib.hid (below_setAt (below_setAt (below_setAt (below_setAt B2.out w.heap.size 0 (Nat.le_refl _) (.int .i64 1)) w.heap.size 1 (Nat.le_refl _) (.int .i64 ow)) w.heap.size 2 (Nat.le_refl _) (.int .i64 0)) w.heap.size 3 (Nat.le_refl _) (.slice ad2 ws.length cp2))
            have XP := Lib.hid (set_at (a := ⟨w.heap.size, 3, none⟩) (set_at (a := ⟨w.heap.size, 2, none⟩) (set_at (a := ⟨w.heap.size, 1, none⟩) (set_at (a := ⟨w.heap.size, 0, none⟩) X2.out rfl rfl (.int .i64 1)) rfl rfl (.int .i64 ow)) rfl rfl (.int .i64 0)) rfl rfl (.slice ad2 ws.length cp2))
            have YP := Lib.hid (set_off (a := ⟨w.heap.size, 3, none⟩) (set_off (a := ⟨w.heap.size, 2, none⟩) (set_off (a := ⟨w.heap.size, 1, none⟩) (set_off (a := ⟨w.heap.size, 0, none⟩) Y2.out (by simp) (.int .i64 1)) (by simp) (.int .i64 ow)) (by simp) (.int .i64 0)) (by simp) (.slice ad2 ws.length cp2))
            go_wp2_with (at_builtin; (refine wpList_snoc _ encI_len encI_one rfl _ _ 23 rfl 3 _ 8 Try.underlying23 info_int rfl (by decide) w1.heap.size (.slice ad2 ws.length cp2) ws rfl OP.out t _ rfl w2.heap.size rfl (by simp only [szS]) (by decide) HL.out z2 ?_); intro ad3 cp3 w3 hown hg hat; have O3 := Lib.hid hown; have B3 := Lib.hid (push_below BP.out hg OP.out.blk (by simp only [szS]; omega) (by omega)); have X3 := Lib.hid (push_at XP.out hg OP.out.blk (by omega)); have Y3 := Lib.hid (push_at YP.out hg OP.out.blk (by omega)); have z3 : w2.heap.size ≤ w3.heap.size := (by have h := hg.size; simp only [szA, szS] at h; omega); clear hown hg hat c0 c1 c2 c3 f0 f1 f2 f3 d0 d1 d2 d3 g0 g1 g2 g3; obtain ⟨c0, c1, c2, c3, f0, f1, f2, f3⟩ := box4 X3.out; obtain ⟨d0, d1, d2, d3, g0, g1, g2, g3⟩ := box4 Y3.out; have l5 := heap_lt X3.out; have l6 := heap_lt Y3.out)
            have o3 : Own w1.heap.size 3 1 encI w3 (.slice ad3 (ws ++ [t]).length cp3) (ws ++ [t]) := by rw [List.length_append, List.length_singleton]; exact O3.out
            obtain ⟨us, hus⟩ : ∃ us, ws ++ [t] = us := ⟨_, rfl⟩
            have hul : ws.length + 1 = us.length := by rw [← hus]; simp
            have O3' := O3.out
            rw [hus, hul] at O3'
            have OU := Lib.hid O3'; clear O3' o3 O3
            have HUS := Lib.hid hus; have HUL := Lib.hid hul; clear hus hul
            go_wp2_with (fail)
            rw [HUL.out]
            refine (cloneInts_calls _ us _ (OU.out.row encI_len) (by have := HUL.out; omega)).mono ?_
            rintro e w4 ⟨v4, rfl, ho, hb⟩
            have B4 := Lib.hid (B3.out.trans (hb.mono (by omega))); have X4 := Lib.hid (below_at hb X3.out); have Y4 := Lib.hid (below_at hb Y3.out)
            obtain ⟨ad4, cp4, rfl, ho4, hx⟩ := ho
            have O4 := Lib.hid ho4
            clear hb ho4 hx c0 c1 c2 c3 f0 f1 f2 f3 d0 d1 d2 d3 g0 g1 g2 g3
            obtain ⟨c0, c1, c2, c3, f0, f1, f2, f3⟩ := box4 X4.out; obtain ⟨d0, d1, d2, d3, g0, g1, g2, g3⟩ := box4 Y4.out; have l7 := heap_lt X4.out; have l8 := heap_lt Y4.out
            go_wp2
            refine bodyPost_ret (v := .tuple #[.agg #[.int .i64 1, .int .i64 ow, .int .i64 0, .slice ad4 us.length cp4], .int .i64 1, .bool true]) (by simp [results, Try.results14, go_sem, d0, d1, d2, d3, l7, l8]) rfl ?_
            have OE := Lib.hid (Own.setAt (Own.setAt (Own.setAt (Own.setAt (Own.setAt O4.out w.heap.size 3 (by omega) (.slice ad4 us.length cp4)) (w.heap.size + 1) 0 (by omega) (.int .i64 1)) (w.heap.size + 1) 1 (by omega) (.int .i64 ow)) (w.heap.size + 1) 2 (by omega) (.int .i64 0)) (w.heap.size + 1) 3 (by omega) (.slice ad4 us.length cp4))
            have BE := Lib.hid (below_setAt (below_setAt (below_setAt (below_setAt (below_setAt B4.out w.heap.size 3 (Nat.le_refl _) (.slice ad4 us.length cp4)) (w.heap.size + 1) 0 (by omega) (.int .i64 1)) (w.heap.size + 1) 1 (by omega) (.int .i64 ow)) (w.heap.size + 1) 2 (by omega) (.int .i64 0)) (w.heap.size + 1) 3 (by omega) (.slice ad4 us.length cp4))
            rw [HUS.out]
            exact ⟨_, rfl, OnceOwn.of (OE.out.mono (by omega)) (Nat.le_refl _), BE.out⟩
      · rw [if_neg (by decide), if_pos rfl] at hr
        injection hr with e1 e2; injection e2 with e2 e3
        subst e1 e2 e3
        clear h2 h3
        go_wp2_with (fail)
        refine (onceClone_calls _ ⟨2, ow, va, []⟩ _ (OnceRow.below HR.out B1.out) (by dsimp only; omega)).mono ?_
        rintro e w2 ⟨v2, rfl, ho, hb⟩
        have B2 := Lib.hid (B1.out.trans (hb.mono (by omega))); have X2 := Lib.hid (below_at hb X1.out); have Y2 := Lib.hid (below_at hb Y1.out); have z2 := hb.size
        obtain ⟨ad2, cp2, rfl, ho2, hx⟩ := ho
        have O2 := Lib.hid ho2
        clear hb ho2 hx c0 c1 c2 c3 f0 f1 f2 f3 d0 d1 d2 d3 g0 g1 g2 g3
        obtain ⟨c0, c1, c2, c3, f0, f1, f2, f3⟩ := box4 X2.out; obtain ⟨d0, d1, d2, d3, g0, g1, g2, g3⟩ := box4 Y2.out; have l3 := heap_lt X2.out; have l4 := heap_lt Y2.out
        go_wp2
        refine bodyPost_ret (v := .tuple #[.agg #[.int .i64 2, .int .i64 ow, .int .i64 va, .slice ad2 0 cp2], .int .i64 2, .bool true]) (by simp [results, Try.results14, go_sem, d0, d1, d2, d3, l3, l4]) rfl ?_
        have OE := Lib.hid (Own.setAt (Own.setAt (Own.setAt (Own.setAt O2.out (w.heap.size + 1) 0 (by omega) (.int .i64 2)) (w.heap.size + 1) 1 (by omega) (.int .i64 ow)) (w.heap.size + 1) 2 (by omega) (.int .i64 va)) (w.heap.size + 1) 3 (by omega) (.slice ad2 0 cp2))
        have BE := Lib.hid (below_setAt (below_setAt (below_setAt (below_setAt B2.out (w.heap.size + 1) 0 (by omega) (.int .i64 2)) (w.heap.size + 1) 1 (by omega) (.int .i64 ow)) (w.heap.size + 1) 2 (by omega) (.int .i64 va)) (w.heap.size + 1) 3 (by omega) (.slice ad2 0 cp2))
        exact ⟨_, rfl, OnceOwn.of (OE.out.mono (by omega)) (Nat.le_refl _), BE.out⟩
end Go.Proofs.Ytmmkbiljjhigfaa
