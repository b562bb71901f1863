/- (*Sem).hand: what it does. -/
import Derived.Test.YtmmkbiljjhigfaaSemNew
import Derived.Deep.LoopGhost
namespace Go.Proofs.Ytmmkbiljjhigfaa
open Go.RowKit
set_option linter.unusedSimpArgs false
set_option linter.unusedVariables false
attribute [local go_sem ↓] Go.wp_at_zero Go.wp_at_succ

structure HandInv (f : Int) (q : List (Int × Int)) (f' : Int) (q' : List (Int × Int)) (g : List Int) : Prop where
  lo : 0 ≤ f'
  hi : f' ≤ f
  len : g.length + q'.length = q.length
  cnt : ∀ x ∈ q', 0 ≤ x.2
  eq : serve f q = ((serve f' q').1, (serve f' q').2.1, g ++ (serve f' q').2.2)
theorem HandInv.step {f f' : Int} {q r : List (Int × Int)} {x : Int × Int} {g : List Int} (h : HandInv f q f' (x :: r) g) (hx : x.2 ≤ f') : HandInv f q (f' - x.2) r (g ++ [x.1]) := by
  have hc := h.cnt x (by simp)
  refine ⟨by omega, by have := h.hi; omega, by have := h.len; simp at this ⊢; omega, fun y hy => h.cnt y (by simp [hy]), ?_⟩
  rw [h.eq, serve, if_pos hx]
  simp
theorem HandInv.stop {f f' : Int} {q q' : List (Int × Int)} {g : List Int} (h : HandInv f q f' q' g) (hx : ∀ x, q'[0]? = some x → f' < x.2) : (serve f q).1 = f' ∧ (serve f q).2.1 = q' ∧ (serve f q).2.2 = g := by
  have : serve f' q' = (f', q', []) := by
    match q', hx with
    | [], _ => rfl
    | y :: r, hx => have := hx y rfl; rw [serve, if_neg (by omega)]
  rw [h.eq, this]; simp

theorem hand_end {b : Nat} {f f' l : Int} {qv qv' gv : Value} {q q' : List (Int × Int)} {g : List Int} {w wr w1 : World} {n : Nat} {ad : Option Addr} {cap : Nat} (hbx : w.heap[b]? = some (.cells #[.int .i64 f, .int .i64 l, qv] 48 (0, 0)))
    (hb : wr.heap[b]? = some (.cells #[.int .i64 f', .int .i64 l, qv'] 48 (0, 0))) (hg : w.grownBy wr (some b)) (ho : Own w.heap.size 3 1 encI wr gv g)
    (ho2 : Own (wr.drewN n).heap.size 62 2 encP w1 (.slice ad q'.length cap) q') (hb2 : Below (wr.drewN n).heap.size (wr.drewN n) w1) (hs : (serve f q).1 = f' ∧ (serve f q).2.1 = q' ∧ (serve f q).2.2 = g) :
    ∃ gv' qv'', Ending.returned gv = Ending.returned gv' ∧ Own w.heap.size 3 1 encI (w1.setCell ⟨b, 2, none⟩ (.slice ad q'.length cap)) gv' (serve f q).2.2 ∧
      (w1.setCell ⟨b, 2, none⟩ (.slice ad q'.length cap)).heap[b]? = some (.cells #[.int .i64 (serve f q).1, .int .i64 l, qv''] 48 (0, 0)) ∧
      Own w.heap.size 62 2 encP (w1.setCell ⟨b, 2, none⟩ (.slice ad q'.length cap)) qv'' (serve f q).2.1 ∧ w.grownBy (w1.setCell ⟨b, 2, none⟩ (.slice ad q'.length cap)) (some b) := by
  obtain ⟨e1, e2, e3⟩ := hs
  rw [e1, e2, e3]
  have hlt := heap_lt hbx
  have hle := hg.size
  refine ⟨gv, _, rfl, ((ho.drewN n).kept hb2).set hlt _, set_at (below_at hb2 (show (wr.drewN n).heap[b]? = _ from hb)) rfl rfl _, (ho2.mono hle).set hlt _, grown_set (grown_later (grown_drewN hg n) hb2) rfl _⟩

theorem hand_round {b bq oq c m n cap : Nat} {f f' l : Int} {qv gv : Value} {x : Int × Int} {q r : List (Int × Int)} {g : List Int} {w wr W2 w3 : World} {ad : Option Addr} (hbx : w.heap[b]? = some (.cells #[.int .i64 f, .int .i64 l, qv] 48 (0, 0)))
    (hr : PRow w (.slice (some ⟨bq, oq, none⟩) (x :: r).length c) (x :: r)) (hne : (Value.slice (some ⟨bq, oq, none⟩) (x :: r).length c).ownBlock ≠ some b) (ho : Own w.heap.size 3 1 encI wr gv g) (hg : w.grownBy wr (some b)) (hi : HandInv f q f' (x :: r) g) (hx : x.2 ≤ f')
    (hW : W2 = (wr.drewN m).setCell ⟨b, 0, none⟩ (.int .i64 (f' - x.2))) (hb2 : W2.heap[b]? = some (.cells #[.int .i64 (f' - x.2), .int .i64 l, .slice (some ⟨bq, oq, none⟩) (r.length + 1) c] 48 (0, 0)))
    (hown : Own w.heap.size 3 1 encI w3 (.slice ad n cap) (g ++ [x.1])) (hgr : (W2.alloc (.cells (encI x.1).toArray 3)).grownBy w3 gv.ownBlock) :
    (w3.setCell ⟨b, 2, none⟩ (.slice (if c = 1 then some ⟨bq, oq, none⟩ else some ⟨bq, oq + 2, none⟩) r.length (c - 1))).heap[b]? = some (.cells #[.int .i64 (f' - x.2), .int .i64 l, .slice (if c = 1 then some ⟨bq, oq, none⟩ else some ⟨bq, oq + 2, none⟩) r.length (c - 1)] 48 (0, 0)) ∧
    PRow w (.slice (if c = 1 then some ⟨bq, oq, none⟩ else some ⟨bq, oq + 2, none⟩) r.length (c - 1)) r ∧ (Value.slice (if c = 1 then some ⟨bq, oq, none⟩ else some ⟨bq, oq + 2, none⟩) r.length (c - 1)).ownBlock ≠ some b ∧
    Own w.heap.size 3 1 encI (w3.setCell ⟨b, 2, none⟩ (.slice (if c = 1 then some ⟨bq, oq, none⟩ else some ⟨bq, oq + 2, none⟩) r.length (c - 1))) (.slice ad n cap) (g ++ [x.1]) ∧
    w.grownBy (w3.setCell ⟨b, 2, none⟩ (.slice (if c = 1 then some ⟨bq, oq, none⟩ else some ⟨bq, oq + 2, none⟩) r.length (c - 1))) (some b) ∧ HandInv f q (f' - x.2) r (g ++ [x.1]) := by
  have hlt := heap_lt hbx
  have hW2 : w.grownBy W2 (some b) := by rw [hW]; exact grown_set (grown_drewN hg m) rfl _
  have hblk : ∀ k, gv.ownBlock = some k → w.heap.size ≤ k := fun k e => (ho.block k e).1
  have h3 := grown_own (grown_alloc hW2 _) hgr hblk
  refine ⟨?_, Row.tail hr, ?_, hown.set hlt _, grown_set h3 rfl _, hi.step hx⟩
  · refine (set_at (b := b) (cs := #[.int .i64 (f' - x.2), .int .i64 l, .slice (some ⟨bq, oq, none⟩) (r.length + 1) c]) (T := 48) (fr := (0, 0)) ?_ rfl rfl _).trans rfl
    rw [hgr.block b (by have := hW2.size; simp only [szA]; omega) (fun e => by have := hblk b e.symm; omega)]
    exact heap_up hb2
  · rw [tail_block]; exact hne
theorem hand_w3 {b : Nat} {gv : Value} {g : List Int} {w wr W2 w3 : World} {A X : Obj} (hlt : b < w.heap.size) (ho : Own w.heap.size 3 1 encI wr gv g) (hb2 : W2.heap[b]? = some A) (hgr : (W2.alloc X).grownBy w3 gv.ownBlock) : w3.heap[b]? = some A := by
  rw [hgr.block b (by have := heap_lt hb2; simp only [szA]; omega) (fun e => by have := (ho.block b e.symm).1; omega)]
  exact heap_up hb2

set_option maxHeartbeats 1600000 in
/-- hand: the semaphore lies in block b; its queue qv reads as q. -/
theorem hand_calls (b : Nat) (f l : Int) (qv : Value) (q : List (Int × Int)) (w : World) (hbx : w.heap[b]? = some (.cells #[.int .i64 f, .int .i64 l, qv] 48 (0, 0)))
    (h : PRow w qv q) (hne : qv.ownBlock ≠ some b) (hq : q.length ≤ 1000) (hf : 0 ≤ f ∧ f ≤ 1000) (hc : ∀ x ∈ q, 0 ≤ x.2) :
    Calls Try.prog 77 #[.pointer (some ⟨b, 0, none⟩)] w fun e w' => ∃ gv qv', e = .returned gv ∧ Own w.heap.size 3 1 encI w' gv (serve f q).2.2 ∧
      w'.heap[b]? = some (.cells #[.int .i64 (serve f q).1, .int .i64 l, qv'] 48 (0, 0)) ∧ Own w.heap.size 62 2 encP w' qv' (serve f q).2.1 ∧
      w.grownBy w' (some b) := by
  have HC := Lib.hid hc; clear hc
  have HBX := Lib.hid hbx; clear hbx
  have HN0 := Lib.hid hne; clear hne
  obtain ⟨hf0, hf1⟩ := hf
  go_enter Try.func77, Try.ntmps77
  go_wp2
  go_loopg [3] q.length (fun n gv wr => ∃ (f' : Int) (qv' : Value) (q' : List (Int × Int)) (g : List Int), q'.length ≤ n ∧ wr.heap[b]? = some (.cells #[.int .i64 f', .int .i64 l, qv'] 48 (0, 0)) ∧
     PRow w qv' q' ∧ qv'.ownBlock ≠ some b ∧ Own w.heap.size 3 1 encI wr gv g ∧ w.grownBy wr (some b) ∧ HandInv f q f' q' g)
  case atStart => exact ⟨f, qv, q, [], Nat.le_refl _, HBX.out, h, HN0.out, Own.nil _ _ _ _ _, World.grownBy.refl _ _, ⟨hf0, Int.le_refl _, by simp, HC.out, by simp⟩⟩
  case round =>
    obtain ⟨f', qv', q', g, hn, hb, hr, hne, ho, hg, hi⟩ := hrel
    have HI := Lib.hid hi; clear hi
    have HB := Lib.hid hb
    have HG := Lib.hid hg; clear hg
    have HO := Lib.hid ho; clear ho
    have HR := Lib.hid hr
    have HNE := Lib.hid hne
    obtain ⟨c0, c1, c2, k0, k1, k2⟩ := box3 hb
    have b1 := HI.out.lo
    have b2 := HI.out.hi
    clear hb
    cases q' with
    | nil =>
      obtain ⟨a, c, rfl, _⟩ := hr
      have c2' : wr.cell? ⟨b, 2, none⟩ = some (.slice a 0 c) := c2
      clear c2
      go_wp2
      go_quiet (fail)
      go_wp2_with (at_builtin; refine wpList_clone _ encP_len one_pair rfl _ _ 46 rfl 62 _ 16 Try.underlying46 info_W rfl (by decide) rfl _ [] rfl (HR.out.grown (grown_drewN HG.out _) (.inr HNE.out)) (by decide) (by simp) ?_; intro ad cap w1 hown hb1; have HO2 := Lib.hid hown; clear hown; have HB2 := Lib.hid hb1; clear hb1; obtain ⟨d0, d1, d2, m0, m1, m2⟩ := box3 (below_at HB2.out (show (wr.drewN nq).heap[b]? = _ from HB.out)))
      go_ret
      exact hand_end HBX.out HB.out HG.out HO.out HO2.out HB2.out (HI.out.stop (fun x hx => by cases hx))
    | cons x r =>
      obtain ⟨a, c, rfl, l1, l2, hl⟩ := (PRow.look (hr.grown HG.out (.inr hne)))
      obtain ⟨bq, oq, rfl, hbq, hcq⟩ := hl (by simp)
      obtain ⟨x1, x2⟩ := hcq 0 x rfl
      simp only [Nat.zero_mul, Nat.add_zero] at x1 x2
      simp only [List.length_cons] at c2 l1
      have hlen : r.length + 1 ≤ 1000 := by have := HI.out.len; simp only [List.length_cons] at this; omega
      have hneb : bq ≠ b := fun e => HNE.out (by rw [e]; rfl)
      clear hr hcq hl hne
      have hx0 : 0 ≤ x.2 := HI.out.cnt x (by simp)
      by_cases hx : x.2 ≤ f'
      · have hw : IntKind.i64.wrap (f' - x.2) = f' - x.2 := IntWalk.i64_in _ (by omega)
        go_wp2
        go_quiet (fail)
        go_wp2
        go_region
        have hb2 := set_at (a := ⟨b, 0, none⟩) (show (wr.drewN (nq + 1)).heap[b]? = _ from HB.out) rfl rfl (.int .i64 (f' - x.2))
        generalize hW : (wr.drewN (nq + 1)).setCell ⟨b, 0, none⟩ (.int .i64 (f' - x.2)) = W2 at *
        change W2.heap[b]? = some (.cells #[.int .i64 (f' - x.2), .int .i64 l, .slice (some ⟨bq, oq, none⟩) (r.length + 1) c] 48 (0, 0)) at hb2
        have hz2 : w.heap.size ≤ W2.heap.size := by rw [← hW, szS]; exact HG.out.size
        have ho2 : Own w.heap.size 3 1 encI W2 u3 g := by rw [← hW]; exact (HO.out.drewN _).set (heap_lt HBX.out) _
        have y1 : W2.cell? ⟨bq, oq, none⟩ = some (.int .i64 x.1) := by rw [← hW]; exact (World.cell?_of_block (Below.heap_setCell _ _ _ _ hneb)).trans x1
        have HB2 := Lib.hid hb2
        have HO2 := Lib.hid ho2; clear ho2
        have HW := Lib.hid hW; clear hW
        obtain ⟨e0, e1, e2, n0, n1, n2⟩ := box3 hb2
        have hgl : (g.length + 1) * 8 ≤ 140737488355328 := by have := HI.out.len; simp only [List.length_cons] at this; omega
        have HGL := Lib.hid hgl; clear hgl
        clear hb2 c0 c1 c2 k0 k1 k2 x1 x2
        go_wp2_with (at_builtin; refine wpList_snoc _ encI_len encI_one rfl _ _ 23 rfl 3 _ 8 Try.underlying23 info_int rfl (by decide) w.heap.size _ g rfl HO2.out x.1 _ rfl _ rfl rfl (by decide) HGL.out hz2 ?_; intro ad cap w3 hown hgr hat; have HO3 := Lib.hid hown; clear hown; have HG3 := Lib.hid hgr; clear hgr hat; obtain ⟨p0, p1, p2, r0, r1, r2⟩ := box3 (hand_w3 (heap_lt HBX.out) HO.out HB2.out HG3.out))
        all_goals have K := hand_round HBX.out HR.out HNE.out HO.out HG.out HI.out hx HW.out.symm HB2.out HO3.out HG3.out
        · have hc1 : c = 1 := by assumption
          simp only [hc1, ↓reduceIte, Nat.reduceSub] at K
          go_roundg (gk - 1)
          case measure => have := hn; simp at this; omega
          case rel => exact ⟨_, _, r, _, by have := hn; simp at this; omega, K.1, K.2.1, K.2.2.1, K.2.2.2.1, K.2.2.2.2.1, K.2.2.2.2.2⟩
        · have hc1 : ¬ c = 1 := by assumption
          simp only [hc1, ↓reduceIte] at K
          go_roundg (gk - 1)
          case measure => have := hn; simp at this; omega
          case rel => exact ⟨_, _, r, _, by have := hn; simp at this; omega, K.1, K.2.1, K.2.2.1, K.2.2.2.1, K.2.2.2.2.1, K.2.2.2.2.2⟩
      · go_wp2
        go_quiet (fail)
        go_wp2_with (at_builtin; refine wpList_clone _ encP_len one_pair rfl _ _ 46 rfl 62 _ 16 Try.underlying46 info_W rfl (by decide) rfl _ (x :: r) rfl (HR.out.grown (grown_drewN HG.out _) (.inr HNE.out)) (by decide) (by simp; omega) ?_; intro ad cap w1 hown hb1; have HO2 := Lib.hid hown; clear hown; have HB2 := Lib.hid hb1; clear hb1; obtain ⟨d0, d1, d2, m0, m1, m2⟩ := box3 (below_at HB2.out (show (wr.drewN nq).heap[b]? = _ from HB.out)))
        go_ret
        exact hand_end HBX.out HB.out HG.out HO.out HO2.out HB2.out (HI.out.stop (fun y hy => by cases hy; omega))
end Go.Proofs.Ytmmkbiljjhigfaa
