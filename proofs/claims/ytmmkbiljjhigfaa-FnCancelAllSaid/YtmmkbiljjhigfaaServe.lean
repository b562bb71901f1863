/- spec.l1Serve: what it returns. -/
import Derived.Test.YtmmkbiljjhigfaaHand
namespace Go.Proofs.Ytmmkbiljjhigfaa
open Go.RowKit
set_option linter.unusedSimpArgs false
set_option linter.unusedVariables false
attribute [local go_sem ↓] Go.wp_at_zero Go.wp_at_succ

theorem serve_round {b2 b4 bq oq c m n cap : Nat} {f f' l : Int} {gv : Value} {x : Int × Int} {q r : List (Int × Int)} {g : List Int} {w wr W2 w3 w4 : World} {ad ad' : Option Addr} {cap' : Nat}
    (hb : wr.heap[b4]? = some (.cells #[.int .i64 f', .int .i64 l, .slice (some ⟨bq, oq, none⟩) (x :: r).length c] 48 (0, 0)))
    (ho : Own w.heap.size 3 1 encI wr gv g) (hi : HandInv f q f' (x :: r) g) (hx : x.2 ≤ f') (hz2 : wr.heap[b2]? = some (.cells #[.int .i64 0, .int .i64 0, .slice none 0 0] 48 (0, 0)))
    (hw : Below w.heap.size w wr) (h4 : w.heap.size ≤ b4) (h2 : w.heap.size ≤ b2) (hne : b2 ≠ b4)
    (hW : W2 = (wr.drewN m).setCell ⟨b4, 0, none⟩ (.int .i64 (f' - x.2)))
    (hown : Own w.heap.size 3 1 encI w3 (.slice ad n cap) (g ++ [x.1])) (hgr : (W2.alloc (.cells (encI x.1).toArray 3)).grownBy w3 gv.ownBlock)
    (hq4 : Own w3.heap.size 62 2 encP w4 (.slice ad' r.length cap') r) (hb4 : Below w3.heap.size w3 w4) :
    ∃ (f' : Int) (qv' : Value) (q' : List (Int × Int)) (g : List Int), q'.length ≤ r.length ∧ (w4.setCell ⟨b4, 2, none⟩ (.slice ad' r.length cap')).heap[b4]? = some (.cells #[.int .i64 f', .int .i64 l, qv'] 48 (0, 0)) ∧
     Own w.heap.size 62 2 encP (w4.setCell ⟨b4, 2, none⟩ (.slice ad' r.length cap')) qv' q' ∧ Own w.heap.size 3 1 encI (w4.setCell ⟨b4, 2, none⟩ (.slice ad' r.length cap')) (.slice ad n cap) g ∧ HandInv f q f' q' g ∧
     (w4.setCell ⟨b4, 2, none⟩ (.slice ad' r.length cap')).heap[b2]? = some (.cells #[.int .i64 0, .int .i64 0, .slice none 0 0] 48 (0, 0)) ∧ Below w.heap.size w (w4.setCell ⟨b4, 2, none⟩ (.slice ad' r.length cap')) := by
  have e4 : W2.heap[b4]? = some (.cells #[.int .i64 (f' - x.2), .int .i64 l, .slice (some ⟨bq, oq, none⟩) (x :: r).length c] 48 (0, 0)) := by
    rw [hW]; exact set_at (show (wr.drewN m).heap[b4]? = _ from hb) rfl rfl _
  have e2 : W2.heap[b2]? = some (.cells #[.int .i64 0, .int .i64 0, .slice none 0 0] 48 (0, 0)) := by
    rw [hW]; exact set_off (show (wr.drewN m).heap[b2]? = _ from hz2) (Ne.symm hne) _
  have z2 : W2.heap.size = wr.heap.size := by rw [hW, szS]; rfl
  have hw2 : Below w.heap.size w W2 := by rw [hW]; exact (below_drewN hw m).setCell h4 _
  have n4 : gv.ownBlock ≠ some b4 := ho.ne hb (by decide)
  have n2 : gv.ownBlock ≠ some b2 := ho.ne hz2 (by decide)
  have f4 : w3.heap[b4]? = some (.cells #[.int .i64 (f' - x.2), .int .i64 l, .slice (some ⟨bq, oq, none⟩) (x :: r).length c] 48 (0, 0)) := by
    rw [hgr.block b4 (by have := heap_lt e4; simp only [szA]; omega) (fun e => n4 e.symm)]; exact heap_up e4
  have f2 : w3.heap[b2]? = some (.cells #[.int .i64 0, .int .i64 0, .slice none 0 0] 48 (0, 0)) := by
    rw [hgr.block b2 (by have := heap_lt e2; simp only [szA]; omega) (fun e => n2 e.symm)]; exact heap_up e2
  have hs3 : w.heap.size ≤ w3.heap.size := by have := hgr.size; have := hw2.size; simp only [szA] at *; omega
  have hw3 : Below w.heap.size w w3 := (hw2.alloc (by have := hw2.size; omega) _).grown hgr (by have := hw2.size; simp only [szA]; omega) (fun k e => (ho.block k e).1)
  have m4 : (Value.slice ad n cap).ownBlock ≠ some b4 := hown.ne f4 (by decide)
  have p4 : (Value.slice ad' r.length cap').ownBlock ≠ some b4 := hq4.ne (below_at hb4 f4) (by decide)
  refine ⟨f' - x.2, _, r, g ++ [x.1], Nat.le_refl _, set_at (below_at hb4 f4) rfl rfl _, (hq4.mono hs3).set_off p4 _, (hown.kept hb4).set_off m4 _, hi.step hx, set_off (below_at hb4 f2) (Ne.symm hne) _, (hw3.trans (hb4.mono hs3)).setCell h4 _⟩

theorem serve_w3 {b4 : Nat} {gv : Value} {g : List Int} {w wr W2 w3 : World} {A : Obj} {cs : Array Value} {X : Obj} (ho : Own w.heap.size 3 1 encI wr gv g) (hb : wr.heap[b4]? = some (.cells cs 48 (0, 0))) (hb2 : W2.heap[b4]? = some A) (hgr : (W2.alloc X).grownBy w3 gv.ownBlock) : w3.heap[b4]? = some A := by
  rw [hgr.block b4 (by have := heap_lt hb2; simp only [szA]; omega) (fun e => ho.ne hb (by decide) e.symm)]
  exact heap_up hb2
theorem serve_tail {bq oq c : Nat} {gv : Value} {g : List Int} {x : Int × Int} {r : List (Int × Int)} {w W2 w3 : World} {X : Obj} (ho : Own w.heap.size 3 1 encI W2 gv g) (hq : Own w.heap.size 62 2 encP W2 (.slice (some ⟨bq, oq, none⟩) (r.length + 1) c) (x :: r)) (hgr : (W2.alloc X).grownBy w3 gv.ownBlock) :
    PRow w3 (.slice (if c = 1 then some ⟨bq, oq, none⟩ else some ⟨bq, oq + 2, none⟩) r.length (c - 1)) r := by
  have hne : (Value.slice (some ⟨bq, oq, none⟩) (r.length + 1) c).ownBlock ≠ gv.ownBlock := by
    rcases hq.2 with ⟨e, _⟩ | ⟨k, cap, cur, e, _, hk, _⟩
    · cases e
    · cases e
      intro e2
      exact ho.ne hk (by decide) e2.symm
  have h2 := (hq.kept ((Below.refl _ _).alloc (Nat.le_refl _) X)).growns hgr (.inr hne)
  exact Row.tail (h2.row encP_len)

set_option maxHeartbeats 1600000 in
theorem l1Serve_calls (f l : Int) (v : Value) (q : List (Int × Int)) (w : World) (h : PRow w v q) (hq : q.length ≤ 1000) (hf : 0 ≤ f ∧ f ≤ 1000) (hc : ∀ x ∈ q, 0 ≤ x.2) :
    Calls Try.prog 79 #[.agg #[.int .i64 f, .int .i64 l, v]] w fun e w' => ∃ gv qv', e = .returned (.tuple #[.agg #[.int .i64 (serve f q).1, .int .i64 l, qv'], gv]) ∧
      Own w.heap.size 3 1 encI w' gv (serve f q).2.2 ∧ Own w.heap.size 62 2 encP w' qv' (serve f q).2.1 ∧ Below w.heap.size w w' := by
  have hb0 : Below w.heap.size w ((w.alloc (.cells #[.int .i64 f, .int .i64 l, v] 48)).alloc (.cells #[.int .i64 0, .int .i64 0, .slice none 0 0] 48)) := ((Below.refl _ _).alloc (Nat.le_refl _) _).alloc (by simp) _
  have HB0 := Lib.hid hb0; clear hb0
  have HC := Lib.hid hc; clear hc
  obtain ⟨hf0, hf1⟩ := hf
  go_enter Try.func79, Try.ntmps79
  go_wp2_with (go_at_call 75; refine (l1Copy_calls _ _ _ q _ (h.below HB0.out) (by omega)).mono ?_; rintro e w1 ⟨qv1, rfl, ho1, hb1⟩; have HO1 := Lib.hid ho1; have HB1 := Lib.hid hb1; clear ho1 hb1; obtain ⟨ad1, cap1, rfl⟩ := HO1.out.form; have hz1 := HB1.out.size)
  have hz : w.heap.size + 2 ≤ w1.heap.size := by simp only [szA] at hz1; omega
  go_loopg [5] q.length (fun n gv wr => ∃ (f' : Int) (qv' : Value) (q' : List (Int × Int)) (g : List Int), q'.length ≤ n ∧ wr.heap[w1.heap.size]? = some (.cells #[.int .i64 f', .int .i64 l, qv'] 48 (0, 0)) ∧
     Own w.heap.size 62 2 encP wr qv' q' ∧ Own w.heap.size 3 1 encI wr gv g ∧ HandInv f q f' q' g ∧
     wr.heap[w.heap.size + 1]? = some (.cells #[.int .i64 0, .int .i64 0, .slice none 0 0] 48 (0, 0)) ∧ Below w.heap.size w wr)
  case atStart =>
    refine ⟨f, _, q, [], Nat.le_refl _, heap_up (heap_at w1 _), ((HO1.out.mono (by simp only [szA]; omega)).kept ((Below.refl _ _).alloc (Nat.le_refl _) _)).kept ((Below.refl _ _).alloc (Nat.le_refl _) _), Own.empty (heap_at1 w1 _ _) (by omega),
      ⟨hf0, Int.le_refl _, by simp, HC.out, by simp⟩, heap_up (heap_up (below_at HB1.out (heap_at1 w _ _))), ?_⟩
    exact ((HB0.out.trans (HB1.out.mono HB0.out.size)).alloc (by omega) _).alloc (by simp only [szA]; omega) _
  case round =>
    obtain ⟨f', qv', q', g, hn, hb, hqv, ho, hi, hz2, hbw⟩ := hrel
    have HI := Lib.hid hi; clear hi
    have HB := Lib.hid hb
    have HW := Lib.hid hbw; clear hbw
    have HO := Lib.hid ho; clear ho
    have HQ := Lib.hid hqv
    have HZ := Lib.hid hz2
    have hr : PRow wr qv' q' := hqv.row encP_len
    have HR := Lib.hid hr
    obtain ⟨c0, c1, c2, k0, k1, k2⟩ := box3 hb
    obtain ⟨d0, d1, d2, m0, m1, m2⟩ := box3 hz2
    have b1 := HI.out.lo
    have b2 := HI.out.hi
    clear hb hz2 hqv
    cases q' with
    | nil =>
      obtain ⟨a, c, rfl, _⟩ := hr
      have c2' : wr.cell? ⟨w1.heap.size, 2, none⟩ = some (.slice a 0 c) := c2
      clear c2
      go_wp2
      go_quiet (fail)
      go_wp2
      obtain ⟨e1, e2, e3⟩ := HI.out.stop (fun x hx => by cases hx)
      refine bodyPost_ret (v := .tuple #[.agg #[.int .i64 f', .int .i64 l, .slice a 0 c], u5]) (by simp [results, Try.results79, go_sem, *]) rfl ⟨u5, _, by rw [e1], ?_, ?_, ?_⟩
      · rw [e3]; exact (((HO.out.drewN _).set_off (HO.out.ne HZ.out (by decide)) _).set_off (HO.out.ne HZ.out (by decide)) _).set_off (HO.out.ne HZ.out (by decide)) _
      · rw [e2]; exact (((HQ.out.drewN _).set_off (HQ.out.ne HZ.out (by decide)) _).set_off (HQ.out.ne HZ.out (by decide)) _).set_off (HQ.out.ne HZ.out (by decide)) _
      · exact (((below_drewN HW.out _).setCell (by simp) _).setCell (by simp) _).setCell (by simp) _
    | cons x r =>
      obtain ⟨a, c, rfl, l1, l2, hl⟩ := hr.look
      obtain ⟨bq, oq, rfl, hbq, hcq⟩ := hl (by simp)
      obtain ⟨x1, x2⟩ := hcq 0 x rfl
      simp only [Nat.zero_mul, Nat.add_zero] at x1 x2
      simp only [List.length_cons] at c2 l1
      have hlen : r.length + 1 ≤ 1000 := by have := HI.out.len; simp only [List.length_cons] at this; omega
      have hneb : bq ≠ w1.heap.size := fun e => HQ.out.ne HB.out (by decide) (by rw [e]; rfl)
      clear hr hcq hl
      have hx0 : 0 ≤ x.2 := HI.out.cnt x (by simp)
      by_cases hx : x.2 ≤ f'
      · have hw : IntKind.i64.wrap (f' - x.2) = f' - x.2 := IntWalk.i64_in _ (by omega)
        go_wp2
        go_quiet (fail)
        go_wp2
        go_region
        have hb2 := set_at (a := ⟨w1.heap.size, 0, none⟩) (show (wr.drewN (nq + 1)).heap[w1.heap.size]? = _ from HB.out) rfl rfl (.int .i64 (f' - x.2))
        have hrw : Own w.heap.size 62 2 encP ((wr.drewN (nq + 1)).setCell ⟨w1.heap.size, 0, none⟩ (.int .i64 (f' - x.2))) (.slice (some ⟨bq, oq, none⟩) (r.length + 1) c) (x :: r) := (HQ.out.set_off (w := wr.drewN (nq + 1)) (HQ.out.ne HB.out (by decide)) _)
        generalize hW : (wr.drewN (nq + 1)).setCell ⟨w1.heap.size, 0, none⟩ (.int .i64 (f' - x.2)) = W2 at *
        change W2.heap[w1.heap.size]? = some (.cells #[.int .i64 (f' - x.2), .int .i64 l, .slice (some ⟨bq, oq, none⟩) (r.length + 1) c] 48 (0, 0)) at hb2
        have hz2 : w.heap.size ≤ W2.heap.size := by rw [← hW, szS]; exact HW.out.size
        have ho2 : Own w.heap.size 3 1 encI W2 u5 g := by rw [← hW]; exact (HO.out.drewN _).set_off (HO.out.ne HB.out (by decide)) _
        have y1 : W2.cell? ⟨bq, oq, none⟩ = some (.int .i64 x.1) := by rw [← hW]; exact (World.cell?_of_block (Below.heap_setCell _ _ _ _ hneb)).trans x1
        have HB2 := Lib.hid hb2
        have HO2 := Lib.hid ho2; clear ho2
        have HQ2 := Lib.hid hrw; clear hrw
        have HWW := Lib.hid hW; clear hW
        obtain ⟨e0, e1, e2, n0, n1, n2⟩ := box3 hb2
        have hgl : (g.length + 1) * 8 ≤ 140737488355328 := by have := HI.out.len; simp only [List.length_cons] at this; omega
        have HGL := Lib.hid hgl; clear hgl
        clear hb2 c0 c1 c2 k0 k1 k2 x1 x2 d0 d1 d2 m0 m1 m2
        by_cases hc1 : c = 1
        · have HC1 := Lib.hid hc1
          go_wp2_with (first | (at_builtin; refine wpList_snoc _ encI_len encI_one rfl (.tmp 32) (.tmp 38) 23 rfl 3 _ 8 Try.underlying23 info_int rfl (by decide) w.heap.size _ g rfl HO2.out x.1 _ rfl _ rfl rfl (by decide) HGL.out hz2 ?_; intro ad cap w3 hown hgr hat; have HO3 := Lib.hid hown; have HG3 := Lib.hid hgr; clear hown hgr hat; have HB3 := Lib.hid (serve_w3 HO.out HB.out HB2.out HG3.out); obtain ⟨p0, p1, p2, r0, r1, r2⟩ := box3 HB3.out; have hz3 := heap_lt HB3.out; have TR := serve_tail HO2.out HQ2.out HG3.out; simp only [hc1, ↓reduceIte, Nat.reduceSub] at TR; have HTR := Lib.hid TR; clear TR) | (at_builtin; refine wpList_cloneE _ encP_len one_pair rfl (.tmp 40) (.tmp 43) 46 rfl 62 _ 16 Try.underlying46 info_W rfl (by decide) _ rfl rfl _ r rfl HTR.out (by decide) (by omega) ?_; intro ad' cap' w4 hown hb4; have HO4 := Lib.hid hown; have HB4 := Lib.hid hb4; clear hown hb4; obtain ⟨q0, q1, q2, s0, s1, s2⟩ := box3 (below_at HB4.out HB3.out)))
          have K := serve_round HB.out HO.out HI.out hx HZ.out HW.out (by omega) (by omega) (by omega) HWW.out.symm HO3.out HG3.out HO4.out HB4.out
          obtain ⟨fK, qK, rK, gK, K0, K1⟩ := K
          go_roundg (gk - 1)
          case measure => have := hn; simp at this; omega
          case rel => exact ⟨fK, qK, rK, gK, by have := hn; simp at this; omega, K1⟩
        · have HC1 := Lib.hid hc1
          go_wp2_with (first | (at_builtin; refine wpList_snoc _ encI_len encI_one rfl (.tmp 32) (.tmp 38) 23 rfl 3 _ 8 Try.underlying23 info_int rfl (by decide) w.heap.size _ g rfl HO2.out x.1 _ rfl _ rfl rfl (by decide) HGL.out hz2 ?_; intro ad cap w3 hown hgr hat; have HO3 := Lib.hid hown; have HG3 := Lib.hid hgr; clear hown hgr hat; have HB3 := Lib.hid (serve_w3 HO.out HB.out HB2.out HG3.out); obtain ⟨p0, p1, p2, r0, r1, r2⟩ := box3 HB3.out; have hz3 := heap_lt HB3.out; have TR := serve_tail HO2.out HQ2.out HG3.out; simp only [hc1, ↓reduceIte] at TR; have HTR := Lib.hid TR; clear TR) | (at_builtin; refine wpList_cloneE _ encP_len one_pair rfl (.tmp 40) (.tmp 43) 46 rfl 62 _ 16 Try.underlying46 info_W rfl (by decide) _ rfl rfl _ r rfl HTR.out (by decide) (by omega) ?_; intro ad' cap' w4 hown hb4; have HO4 := Lib.hid hown; have HB4 := Lib.hid hb4; clear hown hb4; obtain ⟨q0, q1, q2, s0, s1, s2⟩ := box3 (below_at HB4.out HB3.out)))
          have K := serve_round HB.out HO.out HI.out hx HZ.out HW.out (by omega) (by omega) (by omega) HWW.out.symm HO3.out HG3.out HO4.out HB4.out
          obtain ⟨fK, qK, rK, gK, K0, K1⟩ := K
          go_roundg (gk - 1)
          case measure => have := hn; simp at this; omega
          case rel => exact ⟨fK, qK, rK, gK, by have := hn; simp at this; omega, K1⟩
      · go_wp2
        go_quiet (fail)
        go_wp2
        obtain ⟨e1, e2, e3⟩ := HI.out.stop (fun y hy => by cases hy; omega)
        refine bodyPost_ret (v := .tuple #[.agg #[.int .i64 f', .int .i64 l, .slice (some ⟨bq, oq, none⟩) (r.length + 1) c], u5]) (by simp [results, Try.results79, go_sem, *]) rfl ⟨u5, _, by rw [e1], ?_, ?_, ?_⟩
        · rw [e3]; exact (((HO.out.drewN _).set_off (HO.out.ne HZ.out (by decide)) _).set_off (HO.out.ne HZ.out (by decide)) _).set_off (HO.out.ne HZ.out (by decide)) _
        · rw [e2]; exact (((HQ.out.drewN _).set_off (HQ.out.ne HZ.out (by decide)) _).set_off (HQ.out.ne HZ.out (by decide)) _).set_off (HQ.out.ne HZ.out (by decide)) _
        · exact (((below_drewN HW.out _).setCell (by simp) _).setCell (by simp) _).setCell (by simp) _
end Go.Proofs.Ytmmkbiljjhigfaa
