/- Copies of onces, EnterOnce of both: what they return. -/
import Derived.Test.YtmmkbiljjhigfaaOnceValid
import Derived.Test.YtmmkbiljjhigfaaJoin
import Derived.Test.YtmmkbiljjhigfaaSpanI
namespace Go.Proofs.Ytmmkbiljjhigfaa
open Go.RowKit
set_option linter.unusedSimpArgs false
set_option linter.unusedVariables false
attribute [local go_sem ↓] Go.wp_at_zero Go.wp_at_succ
theorem OnceOwn.of {lo hi : Nat} {w : World} {st ow va : Int} {v : Value} {ws : List Int} (h : Own lo 3 1 encI w v ws) (hh : w.heap.size ≤ hi) : OnceOwn lo hi w (.agg #[.int .i64 st, .int .i64 ow, .int .i64 va, v]) ⟨st, ow, va, ws⟩ := by
  obtain ⟨ad, cp, rfl⟩ := h.form
  exact ⟨ad, cp, rfl, h, fun g e => Nat.lt_of_lt_of_le (h.hi g e) hh⟩
theorem OnceOwn.nils {lo hi : Nat} {w : World} {st ow va : Int} : OnceOwn lo hi w (.agg #[.int .i64 st, .int .i64 ow, .int .i64 va, .slice none 0 0]) ⟨st, ow, va, []⟩ := ⟨none, 0, rfl, Own.nil _ _ _ _ _, fun g e => by cases e⟩
def enter (o : OnceD) (t : Int) : OnceD × Int × Bool :=
  if onceB o = true ∧ thrB t = true then
    if o.state = 0 then (⟨1, t, 0, []⟩, 0, true)
    else if o.state = 2 then (o, 2, true)
    else if o.owner = t ∨ t ∈ o.waits then (OnceD.zero, 0, false)
    else (⟨o.state, o.owner, o.value, o.waits ++ [t]⟩, 1, true)
  else (OnceD.zero, 0, false)
theorem enter_small {o r : OnceD} {t i1 : Int} {b1 : Bool} (h : enter o t = (r, i1, b1)) : r.waits.length ≤ 7 := by
  unfold enter at h
  split at h
  · rename_i hs
    have hl := onceB_len hs.1
    split at h
    · injection h with h _; subst h; simp
    · split at h
      · injection h with h _; subst h; omega
      · split at h
        · injection h with h _; subst h; simp [OnceD.zero]
        · injection h with h _; subst h; simp only [List.length_append, List.length_singleton]; omega
  · injection h with h _; subst h; simp [OnceD.zero]
set_option maxHeartbeats 1600000 in
theorem onceClone_calls (v : Value) (o : OnceD) (w : World) (h : OnceRow w v o) (hn : o.waits.length ≤ 1048576) :
    Calls Try.prog 56 #[v] w fun e w' => ∃ v', e = .returned v' ∧ OnceOwn w.heap.size w'.heap.size w' v' o ∧ Below w.heap.size w w' := by
  obtain ⟨st, ow, va, ws⟩ := o
  obtain ⟨a3, p3, rfl, r3⟩ := h
  dsimp only at r3 hn ⊢
  have HI := Lib.hid r3; clear r3
  have hb0 : Below w.heap.size w ((w.alloc (.cells #[.int .i64 st, .int .i64 ow, .int .i64 va, .slice a3 ws.length p3] 25)).alloc (.cells #[.int .i64 0, .int .i64 0, .int .i64 0, .slice none 0 0] 25)) := ((Below.refl _ _).alloc (Nat.le_refl _) _).alloc (by simp) _
  have B0 := Lib.hid hb0; clear hb0
  have X0 := Lib.hid (heap_up (B := .cells #[.int .i64 0, .int .i64 0, .int .i64 0, .slice none 0 0] 25) (heap_at w (.cells #[.int .i64 st, .int .i64 ow, .int .i64 va, .slice a3 ws.length p3] 25)))
  have Y0 := Lib.hid (heap_at1 w (.cells #[.int .i64 st, .int .i64 ow, .int .i64 va, .slice a3 ws.length p3] 25) (.cells #[.int .i64 0, .int .i64 0, .int .i64 0, .slice none 0 0] 25))
  go_enter Try.func56, Try.ntmps56
  go_wp2_with (fail)
  refine (cloneInts_calls _ ws _ (Row.below HI.out B0.out) hn).mono ?_
  rintro e w1 ⟨v1, rfl, ho, hb⟩
  have B1 := Lib.hid (B0.out.trans (hb.mono B0.out.size)); have X1 := Lib.hid (below_at hb X0.out); have Y1 := Lib.hid (below_at hb Y0.out)
  have O1 := Lib.hid (Own.mono (base' := w.heap.size + 2) ho.own (by simp only [szA]; omega))
  obtain ⟨ad1, cp1, rfl, hx⟩ := ho
  clear hb hx
  obtain ⟨c0, c1, c2, c3, f0, f1, f2, f3⟩ := box4 X1.out; obtain ⟨d0, d1, d2, d3, g0, g1, g2, g3⟩ := box4 Y1.out; have l1 := heap_lt X1.out; have l2 := heap_lt Y1.out
  go_wp2
  refine bodyPost_ret (v := .agg #[.int .i64 st, .int .i64 ow, .int .i64 va, .slice ad1 ws.length cp1]) (by simp [results, Try.results56, go_sem, d0, d1, d2, d3, l1, l2]) rfl ?_
  have O2 := Lib.hid (Own.setAt (Own.setAt (Own.setAt (Own.setAt (Own.setAt O1.out w.heap.size 3 (by omega) (.slice ad1 ws.length cp1)) (w.heap.size + 1) 0 (by omega) (.int .i64 st)) (w.heap.size + 1) 1 (by omega) (.int .i64 ow)) (w.heap.size + 1) 2 (by omega) (.int .i64 va)) (w.heap.size + 1) 3 (by omega) (.slice ad1 ws.length cp1))
  have B2 := Lib.hid (below_setAt (below_setAt (below_setAt (below_setAt (below_setAt B1.out w.heap.size 3 (by omega) (.slice ad1 ws.length cp1)) (w.heap.size + 1) 0 (by omega) (.int .i64 st)) (w.heap.size + 1) 1 (by omega) (.int .i64 ow)) (w.heap.size + 1) 2 (by omega) (.int .i64 va)) (w.heap.size + 1) 3 (by omega) (.slice ad1 ws.length cp1))
  exact ⟨_, rfl, OnceOwn.of (O2.out.mono (by omega)) (Nat.le_refl _), B2.out⟩
set_option maxHeartbeats 1600000 in
theorem l2Once_calls (v : Value) (o : OnceD) (w : World) (h : OnceRow w v o) (hn : o.waits.length ≤ 1048576) :
    Calls Try.prog 59 #[v] w fun e w' => ∃ v', e = .returned v' ∧ OnceOwn w.heap.size w'.heap.size w' v' o ∧ Below w.heap.size w w' := by
  obtain ⟨st, ow, va, ws⟩ := o
  obtain ⟨a3, p3, rfl, r3⟩ := h
  dsimp only at r3 hn ⊢
  have HI := Lib.hid r3; clear r3
  have hb0 : Below w.heap.size w ((w.alloc (.cells #[.int .i64 st, .int .i64 ow, .int .i64 va, .slice a3 ws.length p3] 25)).alloc (.cells #[.int .i64 0, .int .i64 0, .int .i64 0, .slice none 0 0] 25)) := ((Below.refl _ _).alloc (Nat.le_refl _) _).alloc (by simp) _
  have HB := Lib.hid hb0; clear hb0
  go_enter Try.func59, Try.ntmps59
  go_wp2
  have ca := heap_up (B := .cells #[.int .i64 0, .int .i64 0, .int .i64 0, .slice none 0 0] 25) (heap_at w (.cells #[.int .i64 st, .int .i64 ow, .int .i64 va, .slice a3 ws.length p3] 25))
  have cb := heap_at1 w (.cells #[.int .i64 st, .int .i64 ow, .int .i64 va, .slice a3 ws.length p3] 25) (.cells #[.int .i64 0, .int .i64 0, .int .i64 0, .slice none 0 0] 25)
  generalize hW : ((w.alloc (.cells #[.int .i64 st, .int .i64 ow, .int .i64 va, .slice a3 ws.length p3] 25)).alloc (.cells #[.int .i64 0, .int .i64 0, .int .i64 0, .slice none 0 0] 25)) = W at *
  have hz : W.heap.size = w.heap.size + 2 := by rw [← hW]; simp
  have HZ := Lib.hid hz
  have hz1 : w.heap.size + 1 < W.heap.size := by omega
  clear hz hW
  have CA := Lib.hid ca
  have CB := Lib.hid cb
  have hl8 : ws.length * 8 ≤ 140737488355328 := by omega
  have HL8 := Lib.hid hl8; clear hl8
  obtain ⟨c0, c1, c2, c3, f0, f1, f2, f3⟩ := box4 ca
  clear ca cb
  go_region_held3 (fun w' => w'.cell? ⟨w.heap.size, 0, none⟩ = some (.int .i64 st) ∧ w'.cell? ⟨w.heap.size, 1, none⟩ = some (.int .i64 ow) ∧ w'.cell? ⟨w.heap.size, 2, none⟩ = some (.int .i64 va) ∧ w'.cell? ⟨w.heap.size, 3, none⟩ = some (.slice a3 ws.length p3)) (go_keep)
    ((refine step_clone _ encI_len encI_one (by rfl) _ _ 23 (by rfl) 3 _ 8 Try.underlying23 info_int rfl (by decide) (w.heap.size + 2) _ (by rfl) (by exact heap_at W _) (by omega) (.slice a3 ws.length p3) ws (by rfl) (by exact Row.below HI.out (HB.out.alloc (by omega) _).drew) (by decide) HL8.out ?_; intro ad cap w1 hown hg; have HO := Lib.hid hown; clear hown; have HG := Lib.hid (clone_below hg); clear hg; obtain ⟨k0, k1, k2, k3, l0, l1, l2, l3⟩ := box4 (below_at HG.out CA.out); obtain ⟨m0, m1, m2, m3, n0, n1, n2, n3⟩ := box4 (below_at HG.out CB.out)))
  clear k0 k1 k2 k3
  have q1 : w.heap.size + 1 < w1.heap.size := Nat.lt_of_lt_of_le hz1 HG.out.size
  go_wp2
  refine bodyPost_ret (v := .agg #[.int .i64 st, .int .i64 ow, .int .i64 va, .slice ad ws.length cap]) (by simp [results, Try.results59, go_sem, m0, m1, m2, m3, q1]) rfl ?_
  have B1 := Lib.hid (HB.out.trans (HG.out.mono HB.out.size))
  have O2 := Lib.hid (Own.setAt (Own.setAt (Own.setAt (Own.setAt HO.out (w.heap.size + 1) 0 (by omega) (.int .i64 st)) (w.heap.size + 1) 1 (by omega) (.int .i64 ow)) (w.heap.size + 1) 2 (by omega) (.int .i64 va)) (w.heap.size + 1) 3 (by omega) (.slice ad ws.length cap))
  have B2 := Lib.hid (below_setAt (below_setAt (below_setAt (below_setAt B1.out (w.heap.size + 1) 0 (by omega) (.int .i64 st)) (w.heap.size + 1) 1 (by omega) (.int .i64 ow)) (w.heap.size + 1) 2 (by omega) (.int .i64 va)) (w.heap.size + 1) 3 (by omega) (.slice ad ws.length cap))
  exact ⟨_, rfl, OnceOwn.of (O2.out.mono (by omega)) (Nat.le_refl _), B2.out⟩
end Go.Proofs.Ytmmkbiljjhigfaa
