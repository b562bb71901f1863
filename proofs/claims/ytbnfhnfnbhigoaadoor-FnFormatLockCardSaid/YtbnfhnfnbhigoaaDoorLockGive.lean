/- l4Give (made by gen_lock.py). -/
import Derived.Test.YtbnfhnfnbhigoaaDoorLockCopy
import Derived.Test.YtbnfhnfnbhigoaaDoorLockPut
import Derived.Test.YtbnfhnfnbhigoaaDoorJoin
namespace Go.Proofs.YtbnfhnfnbhigoaaDoor
open Go.RowKit
set_option linter.unusedSimpArgs false
set_option linter.unusedVariables false
theorem row_rest {α : Type} {k : Nat} {enc : α → List Value} {w : World} {b off n cap : Nat} {q : List α} (h : Row k enc w (.slice (some ⟨b, off, none⟩) n cap) q) (hq : 0 < q.length) :
    Row k enc w (.slice (if cap = 1 then some ⟨b, off, none⟩ else some ⟨b, off + k, none⟩) (q.length - 1) (cap - 1)) (q.drop 1) := by
  cases q with
  | nil => simp at hq
  | cons x r => exact Row.tail h
def qLenL (w : World) (b : Nat) : Nat := match w.cell? ⟨b, 2, none⟩ with | some (.slice _ n _) => n | _ => 0
theorem qLenL_of {w : World} {b : Nat} {x y : Value} {a : Option Addr} {n p : Nat} {T : TypeId} (h : w.heap[b]? = some (.cells #[x, y, .slice a n p] T (0, 0))) : qLenL w b = n := by
  unfold qLenL; rw [(box3 h).2.2.1]
theorem LOwn.none {lo hi : Nat} {w : World} : LOwn lo hi w (.slice none 0 0) [] := ⟨Option.none, 0, rfl, Own.nil _ _ _ _ _, fun g e => by cases e⟩
theorem LockOwn.nils {lo hi : Nat} {w : World} {x : Int} : LockOwn lo hi w (.agg #[.slice none 0 0, .int .i64 x, .slice none 0 0]) ⟨[], x, []⟩ :=
  ⟨Option.none, 0, Option.none, 0, rfl, Own.nil _ _ _ _ _, (fun g e => by cases e), Own.nil _ _ _ _ _, (fun g e => by cases e)⟩
def GivePost (c : LockD) (w : World) (e : Ending) (w' : World) : Prop := ∃ v' u' r g, e = .returned (.tuple #[v', u']) ∧ LockOwn w.heap.size w'.heap.size w' v' r ∧ LOwn w.heap.size w'.heap.size w' u' g ∧ r.readers.length + r.q.length ≤ c.readers.length + c.q.length ∧ r.q.length ≤ c.q.length ∧ g.length ≤ c.q.length ∧ Below w.heap.size w w'
set_option maxHeartbeats 8000000 in
theorem l4Give_calls (v : Value) (c : LockD) (w : World) (h : LockRow w v c) (hn : c.readers.length + c.q.length ≤ 1000) :
    Calls Tryd.prog 57 #[v] w (GivePost c w) := by
  have HP := Lib.hid h
  obtain ⟨aP0, pP0, aP2, pP2, rfl, hr0, hr2⟩ := h
  have HI0 := Lib.hid hr0; have HI2 := Lib.hid hr2; clear hr0 hr2
  go_enter Tryd.func57, Tryd.ntmps57
  go_wp2_with (fail)
  refine (l4Copy_calls _ c _ (LockRow.below HP.out (Below.alloc (Below.alloc (Below.refl _ _) (by first | omega | (simp only [szA, szS, szD, World.heap_drewN] at * <;> omega)) _) (by first | omega | (simp only [szA, szS, szD, World.heap_drewN] at * <;> omega)) _)) (by omega)).mono ?_
  rintro e w1 ⟨vg, rfl, ho_g, hb⟩
  have B1 := Lib.hid (Below.trans (Below.alloc (Below.alloc (Below.refl _ _) (by first | omega | (simp only [szA, szS, szD, World.heap_drewN] at * <;> omega)) _) (by first | omega | (simp only [szA, szS, szD, World.heap_drewN] at * <;> omega)) _) (hb.mono (by first | omega | (simp only [szA, szS, szD, World.heap_drewN] at * <;> omega))) : Below w.heap.size w w1)
  have Z1 := hb.size
  have N1 : w.heap.size + 2 ≤ w1.heap.size := (by first | with_reducible exact Z1 | (simp only [szA, szS, szD] at Z1; omega))
  clear Z1
  have Xp_1 : Hid (w1.heap[w.heap.size]? = some (.cells #[.slice aP0 c.readers.length pP0, .int .i64 c.writer, .slice aP2 c.q.length pP2] 30 (0, 0))) := below_at hb (heap_up (heap_at' (n := w.heap.size) (by first | omega | (simp only [szA, szS, szD, World.heap_drewN] at * <;> omega))))
  have Xres_1 : Hid (w1.heap[w.heap.size + 1]? = some (.cells #[.slice none 0 0, .int .i64 0, .slice none 0 0] 30 (0, 0))) := below_at hb (heap_at' (n := w.heap.size + 1) (by first | omega | (simp only [szA, szS, szD, World.heap_drewN] at * <;> omega)))
  obtain ⟨ag0, pg0, ag2, pg2, rfl, ho0, hx0, ho2, hx2⟩ := ho_g
  have Og0_1 := Lib.hid (Own.mono (base' := w.heap.size) ho0 (by first | omega | (simp only [szA, szS, szD, World.heap_drewN] at * <;> omega))); clear ho0 hx0
  have Og2_1 := Lib.hid (Own.mono (base' := w.heap.size) ho2 (by first | omega | (simp only [szA, szS, szD, World.heap_drewN] at * <;> omega))); clear ho2 hx2
  clear hb
  obtain ⟨cp1_0, cp1_1, cp1_2, fp1_0, fp1_1, fp1_2⟩ := box3 Xp_1.out; have lp1 := heap_lt Xp_1.out
  obtain ⟨cres1_0, cres1_1, cres1_2, fres1_0, fres1_1, fres1_2⟩ := box3 Xres_1.out; have lres1 := heap_lt Xres_1.out
  have S1 : w.heap.size ≤ w1.heap.size := (by omega)
  go_wp2_with (fail)
  go_loopw [5] (fun v wr => ∃ (rd : List Int) (wt : Int) (q : List (Int × Bool)) (g : List Int) (a0 : Option Addr) (p0 : Nat) (a2 : Option Addr) (p2 : Nat) (ag : Option Addr) (pg : Nat), v = .slice ag g.length pg ∧ wr.heap[w1.heap.size]? = some (.cells #[.slice a0 rd.length p0, .int .i64 wt, .slice a2 q.length p2] 30 (0, 0)) ∧ wr.heap[w.heap.size + 1]? = some (.cells #[.slice none 0 0, .int .i64 0, .slice none 0 0] 30 (0, 0)) ∧ Own w.heap.size 3 1 encI wr (.slice a0 rd.length p0) rd ∧ Own w.heap.size 45 2 encW wr (.slice a2 q.length p2) q ∧ Own w.heap.size 3 1 encI wr (.slice ag g.length pg) g ∧ Apart (.slice a0 rd.length p0) (.slice ag g.length pg) ∧ rd.length + q.length ≤ c.readers.length + c.q.length ∧ q.length ≤ c.q.length ∧ q.length + g.length ≤ c.q.length ∧ Below w.heap.size w wr) (fun _ wr => qLenL wr (w1.heap.size))
  case atStart => exact ⟨c.readers, c.writer, c.q, [], _, _, _, _, _, _, rfl, (heap_up (heap_at' (n := w1.heap.size) (by first | omega | (simp only [szA, szS, szD, World.heap_drewN] at * <;> omega)))), (heap_up (heap_up Xres_1.out)), ((Og0_1.out.alloc _).alloc _), ((Og2_1.out.alloc _).alloc _), Own.empty (heap_at' (n := w1.heap.size + 1) (by first | omega | (simp only [szA, szS, szD, World.heap_drewN] at * <;> omega))) (by omega), (Own.later_apart (w' := ((w1.alloc (.cells #[.slice ag0 c.readers.length pg0, .int .i64 c.writer, .slice ag2 c.q.length pg2] 30)).alloc (.cells #[] 3))) (base' := w1.heap.size) (E' := 3) (k' := 1) (enc' := encI) (ys := ([] : List Int)) Og0_1.out (Own.empty (heap_at' (n := w1.heap.size + 1) (by first | omega | (simp only [szA, szS, szD, World.heap_drewN] at * <;> omega))) (by omega)) (Nat.le_refl _)).symm, Nat.le_refl _, Nat.le_refl _, by simp, (Below.alloc (Below.alloc B1.out (by first | omega | (simp only [szA, szS, szD, World.heap_drewN] at * <;> omega)) _) (by first | omega | (simp only [szA, szS, szD, World.heap_drewN] at * <;> omega)) _)⟩
  case round =>
    obtain ⟨w20, rfl⟩ : ∃ x : World, x = wr := ⟨_, rfl⟩
    obtain ⟨rd, wt, q, g, a0, p0, a2, p2, ag, pg, rfl, hx, hy, h0, h2, hg, hap, l1, l2, l3, hb⟩ := hrel
    have B20 := Lib.hid hb; have S20 := hb.size; have Xout_20 := Lib.hid hx; have Xres_20 := Lib.hid hy; have Or_20 := Lib.hid h0; have Oq_20 := Lib.hid h2; have On_20 := Lib.hid hg; have HAP := Lib.hid hap; clear hb hx hy h0 h2 hg hap
    obtain ⟨cout20_0, cout20_1, cout20_2, fout20_0, fout20_1, fout20_2⟩ := box3 Xout_20.out; have lout20 := heap_lt Xout_20.out
    obtain ⟨cres20_0, cres20_1, cres20_2, fres20_0, fres20_1, fres20_2⟩ := box3 Xres_20.out; have lres20 := heap_lt Xres_20.out
    by_cases hq : 0 < q.length
    · by_cases hw : wt = -1
      · subst hw
        have d1 := len_ne hq
        have e1 : (0 : Int) < (q.length : Int) := by omega
        obtain ⟨⟨zt, zb⟩, hz⟩ := get_ex hq
        obtain ⟨_, _, e2, _, hcm, rr⟩ := WRow.look (Own.row encW_len Oq_20.out); injection e2 with e3 _ e4; subst e3 e4
        have hcp : q.length ≤ p2 := by assumption
        obtain ⟨zo_b, zo_o, rfl, zlt, zc⟩ := rr hq
        obtain ⟨z1, z2⟩ := zc 0 _ hz
        simp only [Nat.zero_mul, Nat.add_zero] at z1 z2
        obtain ⟨qs, hqs⟩ : ∃ qs, q.drop 1 = qs := ⟨_, rfl⟩
        have hql : q.length - 1 = qs.length := by rw [← hqs]; simp
        obtain ⟨A, hA⟩ : ∃ A : Addr, (if p2 = 1 then (some (⟨zo_b, zo_o, none⟩ : Addr)) else some ⟨zo_b, zo_o + 2, none⟩) = some A := by split <;> exact ⟨_, rfl⟩
        have HQS := Lib.hid hqs; have HZ := Lib.hid hz; clear hz hqs zc rr
        have k1 : (1 : Int) ≤ (q.length : Int) := by omega
        have k2 : 1 ≤ q.length := by omega
        have k3 : (1 : Int) ≤ (p2 : Int) := by omega
        have k4 : 1 ≤ p2 := by omega
        have k5 : (q.length : Int) ≤ (p2 : Int) := by omega
        have k6 : q.length ≤ p2 := hcp
        have ne_out : zo_b ≠ w1.heap.size := fun e => Oq_20.out.ne Xout_20.out (by decide) (congrArg some e); have nf_out := ne_out.symm
        have ne_res : zo_b ≠ w.heap.size + 1 := fun e => Oq_20.out.ne Xres_20.out (by decide) (congrArg some e); have nf_res := ne_res.symm
        cases zb
        · go_wp2_with (fail)
          refine (l4Put_calls _ rd zt _ ((Or_20.out.alloc _).row encI_len) (by omega)).mono ?_
          rintro e w21 ⟨vy, ys, rfl, ho_y, hyl, hb⟩
          have B21 := Lib.hid (Below.trans (Below.alloc B20.out (by first | omega | (simp only [szA, szS, szD, World.heap_drewN] at * <;> omega)) _) (hb.mono (by first | omega | (simp only [szA, szS, szD, World.heap_drewN] at * <;> omega))) : Below w.heap.size w w21)
          have Z21 := hb.size
          have N21 : w20.heap.size + 1 ≤ w21.heap.size := (by first | with_reducible exact Z21 | (simp only [szA, szS, szD] at Z21; omega))
          clear Z21
          have Xout_21 := Lib.hid (below_at hb (heap_up Xout_20.out))
          have Xres_21 := Lib.hid (below_at hb (heap_up Xres_20.out))
          have Xw_21 : Hid (w21.heap[w20.heap.size]? = some (.cells #[.int .i64 zt, .bool false] 45 (0, 0))) := below_at hb (heap_at' (n := w20.heap.size) (by first | omega | (simp only [szA, szS, szD, World.heap_drewN] at * <;> omega)))
          have Or_21 := Lib.hid ((Or_20.out.alloc _).kept hb)
          have Oq_21 := Lib.hid ((Oq_20.out.alloc _).kept hb)
          have On_21 := Lib.hid ((On_20.out.alloc _).kept hb)
          have APy_r := Lib.hid (Own.later_apart (Or_20.out.alloc _) ho_y.own (Nat.le_refl _))
          have APy_n := Lib.hid (Own.later_apart (On_20.out.alloc _) ho_y.own (Nat.le_refl _))
          have Oy_21 := Lib.hid (Own.mono (base' := w.heap.size) ho_y.own (by first | omega | (simp only [szA, szS, szD, World.heap_drewN] at * <;> omega))); obtain ⟨ay, py, rfl, hx_y⟩ := ho_y; clear hx_y
          clear hb
          obtain ⟨cout21_0, cout21_1, cout21_2, fout21_0, fout21_1, fout21_2⟩ := box3 Xout_21.out; have lout21 := heap_lt Xout_21.out
          obtain ⟨cres21_0, cres21_1, cres21_2, fres21_0, fres21_1, fres21_2⟩ := box3 Xres_21.out; have lres21 := heap_lt Xres_21.out
          have lw21 := heap_lt Xw_21.out
          have S21 : w.heap.size ≤ w21.heap.size := (by omega)
          have HYL := Lib.hid hyl; clear hyl
          obtain ⟨cw0, cw1, fw0, fw1⟩ := box2 Xw_21.out
          go_wp2_with (first | (at_builtin; refine wpList_snoc _ encI_len encI_one rfl _ _ 22 rfl 3 _ 8 Tryd.underlying22 info_int rfl (by decide) w.heap.size (.slice ag g.length pg) g rfl (On_21.out.setB (w1.heap.size) 0 Xout_21.out (by decide) (.slice ay ys.length py)) zt _ rfl _ rfl (by first | omega | (simp only [szA, szS, szD, World.heap_drewN] at * <;> omega)) (by decide) (by omega) (by first | omega | (simp only [szA, szS, szD, World.heap_drewN] at * <;> omega)) ?_; intro ad22 cp22 w22 hown hg hat; obtain ⟨nL22, hnL22⟩ : ∃ l, g ++ [zt] = l := ⟨_, rfl⟩; have lnL22 : g.length + 1 = nL22.length := (by rw [← hnL22, List.length_append, List.length_singleton]); rw [hnL22, lnL22] at hown; rw [lnL22]; have HnL22 := Lib.hid hnL22; clear hnL22; have KnL22 := Lib.hid lnL22; clear lnL22; rw [KnL22.out] at hat; have ANn_y_22 := Lib.hid (Apart.push (v' := .slice ad22 nL22.length cp22) APy_n.out.symm hat Oy_21.out.hi (by first | omega | (simp only [szA, szS]; omega))); clear hat; have Xout_22 := Lib.hid (grown_at2 hg (heap_up (set_at (a := ⟨w1.heap.size, 0, none⟩) Xout_21.out rfl rfl (.slice ay ys.length py))) (On_21.out.ne Xout_21.out (by decide))); have Xres_22 := Lib.hid (grown_at2 hg (heap_up (set_off (a := ⟨w1.heap.size, 0, none⟩) Xres_21.out (by first | omega | (simp only [szA, szS, szD, World.heap_drewN] at * <;> omega)) (.slice ay ys.length py))) (On_21.out.ne Xres_21.out (by decide))); have Xw_22 := Lib.hid (grown_at2 hg (heap_up (set_off (a := ⟨w1.heap.size, 0, none⟩) Xw_21.out (by first | omega | (simp only [szA, szS, szD, World.heap_drewN] at * <;> omega)) (.slice ay ys.length py))) (On_21.out.ne Xw_21.out (by decide))); have Oq_22 := Lib.hid (((Oq_21.out.setB (w1.heap.size) 0 Xout_21.out (by decide) (.slice ay ys.length py)).alloc _).apart hg (Own.apart_types On_21.out Oq_21.out (by decide))); have Oy_22 := Lib.hid (((Oy_21.out.setB (w1.heap.size) 0 Xout_21.out (by decide) (.slice ay ys.length py)).alloc _).apart hg APy_n.out.symm); have On_22 := Lib.hid hown; have B22 := Lib.hid (Below.grown (Below.alloc (below_setAt B21.out (w1.heap.size) 0 (by first | omega | (simp only [szA, szS, szD, World.heap_drewN] at * <;> omega)) (.slice ay ys.length py)) (by first | omega | (simp only [szA, szS, szD, World.heap_drewN] at * <;> omega)) _) hg (by first | omega | (simp only [szA, szS, szD, World.heap_drewN]; omega)) (fun g e => Nat.le_trans (by omega) (On_21.out.blk g e))); have N22 : w21.heap.size + 1 ≤ w22.heap.size := (by first | with_reducible exact hg.size | (have := hg.size; simp only [szA, szS, szD] at this; omega)); clear hown hg; obtain ⟨cout22_0, cout22_1, cout22_2, fout22_0, fout22_1, fout22_2⟩ := box3 Xout_22.out; have lout22 := heap_lt Xout_22.out; obtain ⟨cres22_0, cres22_1, cres22_2, fres22_0, fres22_1, fres22_2⟩ := box3 Xres_22.out; have lres22 := heap_lt Xres_22.out; have lw22 := heap_lt Xw_22.out; have S22 : w.heap.size ≤ w22.heap.size := (by omega)) | (at_builtin; refine Closed.out ?_))
          refine Closed.mk ?_
          clear cout21_0 cout21_1 cout21_2 fout21_0 fout21_1 fout21_2 cres21_0 cres21_1 cres21_2 fres21_0 fres21_1 fres21_2
          have qT := row_rest (w := w22) (Own.row encW_len Oq_22.out) hq
          rw [HQS.out, hql, hA] at qT
          have QT := Lib.hid qT; clear qT
          go_wp2_with (at_builtin; refine wpList_cloneE _ encW_len one_want rfl _ _ 28 rfl 45 _ 16 Tryd.underlying28 info_Want rfl (by decide) (w22.heap.size) rfl (by first | omega | (simp only [szA, szS, szD, World.heap_drewN] at * <;> omega)) (.slice (some A) qs.length (p2 - 1)) qs rfl QT.out (by decide) (by omega) ?_; intro anq pnq w23 ho_nq hb; have B23 := Lib.hid (Below.trans B22.out (hb.mono (by first | omega | (simp only [szA, szS, szD, World.heap_drewN] at * <;> omega))) : Below w.heap.size w w23); have Z23 := hb.size; have N23 : w22.heap.size ≤ w23.heap.size := (by first | with_reducible exact Z23 | (simp only [szA, szS, szD] at Z23; omega)); clear Z23; have Xout_23 := Lib.hid (below_at hb Xout_22.out); have Xres_23 := Lib.hid (below_at hb Xres_22.out); have Xw_23 := Lib.hid (below_at hb Xw_22.out); have On_23 := Lib.hid (On_22.out.kept hb); have Oy_23 := Lib.hid (Oy_22.out.kept hb); have Onq_23 := Lib.hid (Own.mono (base' := w.heap.size) ho_nq (by first | omega | (simp only [szA, szS, szD, World.heap_drewN] at * <;> omega))); clear ho_nq; clear hb; obtain ⟨cout23_0, cout23_1, cout23_2, fout23_0, fout23_1, fout23_2⟩ := box3 Xout_23.out; have lout23 := heap_lt Xout_23.out; obtain ⟨cres23_0, cres23_1, cres23_2, fres23_0, fres23_1, fres23_2⟩ := box3 Xres_23.out; have lres23 := heap_lt Xres_23.out; have lw23 := heap_lt Xw_23.out; have S23 : w.heap.size ≤ w23.heap.size := (by omega))
          clear cout22_0 cout22_1 cout22_2 fout22_0 fout22_1 fout22_2 cres22_0 cres22_1 cres22_2 fres22_0 fres22_1 fres22_2
          go_wp2_with (fail)
          go_roundw
          case rel => exact ⟨ys, (-1), qs, nL22, _, _, _, _, _, _, rfl, (set_at (a := ⟨w1.heap.size, 2, none⟩) Xout_23.out rfl rfl (.slice anq qs.length pnq)), (set_off (a := ⟨w1.heap.size, 2, none⟩) Xres_23.out (by first | omega | (simp only [szA, szS, szD, World.heap_drewN] at * <;> omega)) (.slice anq qs.length pnq)), (Oy_23.out.setB (w1.heap.size) 2 Xout_23.out (by decide) (.slice anq qs.length pnq)), (Onq_23.out.setB (w1.heap.size) 2 Xout_23.out (by decide) (.slice anq qs.length pnq)), (On_23.out.setB (w1.heap.size) 2 Xout_23.out (by decide) (.slice anq qs.length pnq)), ANn_y_22.out.symm, (by have := KnL22.out; have := HYL.out; omega), (by have := KnL22.out; have := HYL.out; omega), (by have := KnL22.out; have := HYL.out; omega), (below_setAt B23.out (w1.heap.size) 2 (by first | omega | (simp only [szA, szS, szD, World.heap_drewN] at * <;> omega)) (.slice anq qs.length pnq))⟩
          case measure => show qLenL _ _ < qLenL _ _; rw [qLenL_of (set_at (a := ⟨w1.heap.size, 2, none⟩) Xout_23.out rfl rfl (.slice anq qs.length pnq)), qLenL_of Xout_20.out]; omega
        · by_cases hr : 0 < rd.length
          · have d3 := decide_eq_true (p := 0 < (rd.length : Int)) (by omega)
            have nn : w1.heap.size ≠ w.heap.size + 1 := by omega
            have nn2 := nn.symm
            go_wp2_with (fail)
            refine bodyPost_ret (v := .tuple #[.agg #[.slice a0 rd.length p0, .int .i64 (-1), .slice (some ⟨zo_b, zo_o, none⟩) q.length p2], .slice ag g.length pg]) (by simp [results, Tryd.results57, go_sem, cres20_0, cres20_1, cres20_2, lres20, cout20_0, cout20_1, cout20_2, lout20, nn, nn2]) rfl ⟨_, _, ⟨rd, (-1), q⟩, g, rfl, LockOwn.make ((sets3_own Or_20.out Xres_20.out (by decide) (.slice a0 rd.length p0) (.int .i64 (-1)) (.slice (some ⟨zo_b, zo_o, none⟩) q.length p2)).alloc _) ((sets3_own Oq_20.out Xres_20.out (by decide) (.slice a0 rd.length p0) (.int .i64 (-1)) (.slice (some ⟨zo_b, zo_o, none⟩) q.length p2)).alloc _) (Nat.le_refl _), LOwn.of ((sets3_own On_20.out Xres_20.out (by decide) (.slice a0 rd.length p0) (.int .i64 (-1)) (.slice (some ⟨zo_b, zo_o, none⟩) q.length p2)).alloc _) (Nat.le_refl _), l1, l2, by omega, (Below.alloc (sets3_below B20.out (by first | omega | (simp only [szA, szS, szD, World.heap_drewN] at * <;> omega)) (.slice a0 rd.length p0) (.int .i64 (-1)) (.slice (some ⟨zo_b, zo_o, none⟩) q.length p2)) (by first | omega | (simp only [szA, szS, szD, World.heap_drewN] at * <;> omega)) _)⟩
          · have d3 := decide_eq_false (p := 0 < (rd.length : Int)) (by omega)
            go_wp2_with (first | (at_builtin; refine wpList_snoc _ encI_len encI_one rfl _ _ 22 rfl 3 _ 8 Tryd.underlying22 info_int rfl (by decide) w.heap.size (.slice ag g.length pg) g rfl ((On_20.out.setB (w1.heap.size) 1 Xout_20.out (by decide) (.int .i64 zt)).alloc _) zt _ rfl _ rfl (by first | omega | (simp only [szA, szS, szD, World.heap_drewN] at * <;> omega)) (by decide) (by omega) (by first | omega | (simp only [szA, szS, szD, World.heap_drewN] at * <;> omega)) ?_; intro ad21 cp21 w21 hown hg hat; obtain ⟨nL21, hnL21⟩ : ∃ l, g ++ [zt] = l := ⟨_, rfl⟩; have lnL21 : g.length + 1 = nL21.length := (by rw [← hnL21, List.length_append, List.length_singleton]); rw [hnL21, lnL21] at hown; rw [lnL21]; have HnL21 := Lib.hid hnL21; clear hnL21; have KnL21 := Lib.hid lnL21; clear lnL21; rw [KnL21.out] at hat; have ANn_r_21 := Lib.hid (Apart.push (v' := .slice ad21 nL21.length cp21) HAP.out.symm hat Or_20.out.hi (by first | omega | (simp only [szA, szS]; omega))); clear hat; have Xout_21 := Lib.hid (grown_at2 hg (heap_up (heap_up (set_at (a := ⟨w1.heap.size, 1, none⟩) Xout_20.out rfl rfl (.int .i64 zt)))) (On_20.out.ne Xout_20.out (by decide))); have Xres_21 := Lib.hid (grown_at2 hg (heap_up (heap_up (set_off (a := ⟨w1.heap.size, 1, none⟩) Xres_20.out (by first | omega | (simp only [szA, szS, szD, World.heap_drewN] at * <;> omega)) (.int .i64 zt)))) (On_20.out.ne Xres_20.out (by decide))); have Xw_21 : Hid (w21.heap[w20.heap.size]? = some (.cells #[.int .i64 zt, .bool true] 45 (0, 0))) := grown_at2 hg (heap_up (heap_at' (n := w20.heap.size) (by first | omega | (simp only [szA, szS, szD, World.heap_drewN] at * <;> omega)))) (On_20.out.not_new (by omega)); have Or_21 := Lib.hid ((((Or_20.out.setB (w1.heap.size) 1 Xout_20.out (by decide) (.int .i64 zt)).alloc _).alloc _).apart hg HAP.out.symm); have Oq_21 := Lib.hid ((((Oq_20.out.setB (w1.heap.size) 1 Xout_20.out (by decide) (.int .i64 zt)).alloc _).alloc _).apart hg (Own.apart_types On_20.out Oq_20.out (by decide))); have On_21 := Lib.hid hown; have B21 := Lib.hid (Below.grown (Below.alloc (Below.alloc (below_setAt B20.out (w1.heap.size) 1 (by first | omega | (simp only [szA, szS, szD, World.heap_drewN] at * <;> omega)) (.int .i64 zt)) (by first | omega | (simp only [szA, szS, szD, World.heap_drewN] at * <;> omega)) _) (by first | omega | (simp only [szA, szS, szD, World.heap_drewN] at * <;> omega)) _) hg (by first | omega | (simp only [szA, szS, szD, World.heap_drewN]; omega)) (fun g e => Nat.le_trans (by omega) (On_20.out.blk g e))); have N21 : w20.heap.size + 2 ≤ w21.heap.size := (by first | with_reducible exact hg.size | (have := hg.size; simp only [szA, szS, szD] at this; omega)); clear hown hg; obtain ⟨cout21_0, cout21_1, cout21_2, fout21_0, fout21_1, fout21_2⟩ := box3 Xout_21.out; have lout21 := heap_lt Xout_21.out; obtain ⟨cres21_0, cres21_1, cres21_2, fres21_0, fres21_1, fres21_2⟩ := box3 Xres_21.out; have lres21 := heap_lt Xres_21.out; have lw21 := heap_lt Xw_21.out; have S21 : w.heap.size ≤ w21.heap.size := (by omega)) | (at_builtin; refine Closed.out ?_))
            refine Closed.mk ?_
            have qT := row_rest (w := w21) (Own.row encW_len Oq_21.out) hq
            rw [HQS.out, hql, hA] at qT
            have QT := Lib.hid qT; clear qT
            go_wp2_with (at_builtin; refine wpList_cloneE _ encW_len one_want rfl _ _ 28 rfl 45 _ 16 Tryd.underlying28 info_Want rfl (by decide) (w21.heap.size) rfl (by first | omega | (simp only [szA, szS, szD, World.heap_drewN] at * <;> omega)) (.slice (some A) qs.length (p2 - 1)) qs rfl QT.out (by decide) (by omega) ?_; intro anq pnq w22 ho_nq hb; have B22 := Lib.hid (Below.trans B21.out (hb.mono (by first | omega | (simp only [szA, szS, szD, World.heap_drewN] at * <;> omega))) : Below w.heap.size w w22); have Z22 := hb.size; have N22 : w21.heap.size ≤ w22.heap.size := (by first | with_reducible exact Z22 | (simp only [szA, szS, szD] at Z22; omega)); clear Z22; have Xout_22 := Lib.hid (below_at hb Xout_21.out); have Xres_22 := Lib.hid (below_at hb Xres_21.out); have Xw_22 := Lib.hid (below_at hb Xw_21.out); have Or_22 := Lib.hid (Or_21.out.kept hb); have On_22 := Lib.hid (On_21.out.kept hb); have Onq_22 := Lib.hid (Own.mono (base' := w.heap.size) ho_nq (by first | omega | (simp only [szA, szS, szD, World.heap_drewN] at * <;> omega))); clear ho_nq; clear hb; obtain ⟨cout22_0, cout22_1, cout22_2, fout22_0, fout22_1, fout22_2⟩ := box3 Xout_22.out; have lout22 := heap_lt Xout_22.out; obtain ⟨cres22_0, cres22_1, cres22_2, fres22_0, fres22_1, fres22_2⟩ := box3 Xres_22.out; have lres22 := heap_lt Xres_22.out; have lw22 := heap_lt Xw_22.out; have S22 : w.heap.size ≤ w22.heap.size := (by omega))
            clear cout21_0 cout21_1 cout21_2 fout21_0 fout21_1 fout21_2 cres21_0 cres21_1 cres21_2 fres21_0 fres21_1 fres21_2
            go_wp2_with (fail)
            go_roundw
            case rel => exact ⟨rd, zt, qs, nL21, _, _, _, _, _, _, rfl, (set_at (a := ⟨w1.heap.size, 2, none⟩) Xout_22.out rfl rfl (.slice anq qs.length pnq)), (set_off (a := ⟨w1.heap.size, 2, none⟩) Xres_22.out (by first | omega | (simp only [szA, szS, szD, World.heap_drewN] at * <;> omega)) (.slice anq qs.length pnq)), (Or_22.out.setB (w1.heap.size) 2 Xout_22.out (by decide) (.slice anq qs.length pnq)), (Onq_22.out.setB (w1.heap.size) 2 Xout_22.out (by decide) (.slice anq qs.length pnq)), (On_22.out.setB (w1.heap.size) 2 Xout_22.out (by decide) (.slice anq qs.length pnq)), ANn_r_21.out.symm, (by have := KnL21.out; omega), (by have := KnL21.out; omega), (by have := KnL21.out; omega), (below_setAt B22.out (w1.heap.size) 2 (by first | omega | (simp only [szA, szS, szD, World.heap_drewN] at * <;> omega)) (.slice anq qs.length pnq))⟩
            case measure => show qLenL _ _ < qLenL _ _; rw [qLenL_of (set_at (a := ⟨w1.heap.size, 2, none⟩) Xout_22.out rfl rfl (.slice anq qs.length pnq)), qLenL_of Xout_20.out]; omega
      · have d1 := len_ne hq
        have d2 : (wt == -1) = false := beq_eq_false_iff_ne.2 hw
        have nn : w1.heap.size ≠ w.heap.size + 1 := by omega
        have nn2 := nn.symm
        go_wp2_with (fail)
        refine bodyPost_ret (v := .tuple #[.agg #[.slice a0 rd.length p0, .int .i64 wt, .slice a2 q.length p2], .slice ag g.length pg]) (by simp [results, Tryd.results57, go_sem, cres20_0, cres20_1, cres20_2, lres20, cout20_0, cout20_1, cout20_2, lout20, nn, nn2]) rfl ⟨_, _, ⟨rd, wt, q⟩, g, rfl, LockOwn.make (sets3_own Or_20.out Xres_20.out (by decide) (.slice a0 rd.length p0) (.int .i64 wt) (.slice a2 q.length p2)) (sets3_own Oq_20.out Xres_20.out (by decide) (.slice a0 rd.length p0) (.int .i64 wt) (.slice a2 q.length p2)) (Nat.le_refl _), LOwn.of (sets3_own On_20.out Xres_20.out (by decide) (.slice a0 rd.length p0) (.int .i64 wt) (.slice a2 q.length p2)) (Nat.le_refl _), l1, l2, by omega, (sets3_below B20.out (by first | omega | (simp only [szA, szS, szD, World.heap_drewN] at * <;> omega)) (.slice a0 rd.length p0) (.int .i64 wt) (.slice a2 q.length p2))⟩
    · have d1 := len_eq hq
      have nn : w1.heap.size ≠ w.heap.size + 1 := by omega
      have nn2 := nn.symm
      go_wp2_with (fail)
      refine bodyPost_ret (v := .tuple #[.agg #[.slice a0 rd.length p0, .int .i64 wt, .slice a2 q.length p2], .slice ag g.length pg]) (by simp [results, Tryd.results57, go_sem, cres20_0, cres20_1, cres20_2, lres20, cout20_0, cout20_1, cout20_2, lout20, nn, nn2]) rfl ⟨_, _, ⟨rd, wt, q⟩, g, rfl, LockOwn.make (sets3_own Or_20.out Xres_20.out (by decide) (.slice a0 rd.length p0) (.int .i64 wt) (.slice a2 q.length p2)) (sets3_own Oq_20.out Xres_20.out (by decide) (.slice a0 rd.length p0) (.int .i64 wt) (.slice a2 q.length p2)) (Nat.le_refl _), LOwn.of (sets3_own On_20.out Xres_20.out (by decide) (.slice a0 rd.length p0) (.int .i64 wt) (.slice a2 q.length p2)) (Nat.le_refl _), l1, l2, by omega, (sets3_below B20.out (by first | omega | (simp only [szA, szS, szD, World.heap_drewN] at * <;> omega)) (.slice a0 rd.length p0) (.int .i64 wt) (.slice a2 q.length p2))⟩
end Go.Proofs.YtbnfhnfnbhigoaaDoor
