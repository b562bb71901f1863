/- Locks: what it is for one to be valid; spec.l4Rises, spec.l4Queue. -/
import Derived.Test.YtbnfhnfnbhigoaaDoorStLock
import Derived.Test.YtbnfhnfnbhigoaaDoorWaits
import Derived.Test.YtbnfhnfnbhigoaaDoorJoin
namespace Go.Proofs.YtbnfhnfnbhigoaaDoor
open Go.RowKit
set_option linter.unusedSimpArgs false
set_option linter.unusedVariables false
def riseB : List Int → Bool
  | [] => true
  | [_] => true
  | x :: y :: r => decide (x < y) && riseB (y :: r)
theorem riseB_iff : ∀ (xs : List Int), riseB xs = true ↔ ∀ i x y, xs[i]? = some x → xs[i + 1]? = some y → x < y
  | [] => by simp [riseB]
  | [a] => by simp [riseB]
  | a :: b :: r => by
    rw [riseB, Bool.and_eq_true, riseB_iff (b :: r), decide_eq_true_eq]
    constructor
    · rintro ⟨h1, h2⟩ i x y hx hy
      match i, hx, hy with
      | 0, hx, hy =>
        simp only [List.getElem?_cons_zero, Option.some.injEq, List.getElem?_cons_succ] at hx hy
        subst hx hy; exact h1
      | i + 1, hx, hy => exact h2 i x y (by simpa using hx) (by simpa using hy)
    · intro h
      exact ⟨h 0 a b rfl rfl, fun i x y hx hy => h (i + 1) x y (by simpa using hx) (by simpa using hy)⟩
theorem riseB_no {xs : List Int} {k : Nat} {x y : Int} (hx : xs[k]? = some x) (hy : xs[k + 1]? = some y) (h : y ≤ x) : riseB xs = false := by
  cases hr : riseB xs
  · rfl
  · have := (riseB_iff xs).1 hr k x y hx hy; omega
def RiseTo (xs : List Int) (k : Nat) : Prop := ∀ i x y, i + 1 < k → xs[i]? = some x → xs[i + 1]? = some y → x < y
theorem RiseTo.step {xs : List Int} {k : Nat} {x y : Int} (h : RiseTo xs (k + 1)) (hx : xs[k]? = some x) (hy : xs[k + 1]? = some y) (hlt : x < y) : RiseTo xs (k + 1 + 1) := by
  intro i a b hi ha hb
  by_cases e : i = k
  · subst e; rw [hx] at ha; rw [hy] at hb; cases ha; cases hb; exact hlt
  · exact h i a b (by omega) ha hb
theorem RiseTo.all {xs : List Int} {k : Nat} (h : RiseTo xs k) (hk : xs.length ≤ k) : riseB xs = true := (riseB_iff xs).2 fun i x y hx hy => h i x y (by have := get_lt hy; omega) hx hy
theorem RiseTo.one (xs : List Int) : RiseTo xs (0 + 1) := fun i x y h => by omega

def wrL (x : Int) : List Int := if x = -1 then [] else [x]
def lockAll (l : LockD) : List Int := l.readers ++ wrL l.writer ++ l.q.map (·.1)
def LockTail (rd : List Int) (wr : Int) (q : List (Int × Bool)) : Prop := q.length = 0 ∨ wr ≠ -1 ∨ (q[0]?.map (·.2) = some true ∧ 0 < rd.length)
instance (rd : List Int) (wr : Int) (q : List (Int × Bool)) : Decidable (LockTail rd wr q) := by unfold LockTail; infer_instance
def LockOk (l : LockD) : Prop := riseB l.readers = true ∧ (l.writer = -1 ∨ l.readers.length = 0) ∧ Distinct (lockAll l) ∧ LockTail l.readers l.writer l.q
instance (l : LockD) : Decidable (LockOk l) := by unfold LockOk; infer_instance
def lockB (l : LockD) : Bool := decide (LockOk l)
theorem lockB_true {l : LockD} : lockB l = true ↔ LockOk l := by simp [lockB]
theorem lockB_false {l : LockD} : lockB l = false ↔ ¬ LockOk l := by simp [lockB]
theorem LockOk.small {l : LockD} (h : LockOk l) : l.readers.length ≤ 6 ∧ l.q.length ≤ 6 := by
  have := h.2.2.1.six
  simp only [lockAll, List.length_append, List.length_map] at this
  omega
theorem Distinct.perm {xs ys : List Int} (h : Distinct xs) (hp : xs.Perm ys) : Distinct ys := ⟨fun x hx => h.1 x (hp.mem_iff.2 hx), hp.nodup_iff.1 h.2⟩
theorem distB_perm {xs ys : List Int} (hp : xs.Perm ys) : distB xs = distB ys := by
  unfold distB
  by_cases h : Distinct xs
  · rw [decide_eq_true h, decide_eq_true (h.perm hp)]
  · rw [decide_eq_false h, decide_eq_false (fun k => h (k.perm hp.symm))]
theorem lock_perm (rd q : List Int) (wr : Int) : (rd ++ q ++ wrL wr).Perm (rd ++ wrL wr ++ q) := by
  rw [List.append_assoc, List.append_assoc]
  exact List.Perm.append_left _ List.perm_append_comm
set_option maxHeartbeats 1600000 in
theorem l4Rises_calls (v : Value) (xs : List Int) (w : World) (h : IRow w v xs) :
    Calls Tryd.prog 40 #[v] w fun e w' => e = .returned (.bool (riseB xs)) ∧ Below w.heap.size w w' := by
  obtain ⟨a, c, rfl, l, m, r⟩ := h.look
  have R := Lib.hid r; clear r
  have hm : xs.length ≤ 9223372036854775807 := by omega
  go_enter Tryd.func40, Tryd.ntmps40
  go_wp2
  go_loopw [3] (fun i wr => ∃ k : Nat, (k ≤ xs.length ∨ k = 0) ∧ i = .int .i64 ((k : Int) + 1) ∧ RiseTo xs (k + 1) ∧ ∃ n, wr = w.drewN n) (fun i _ => xs.length + 1 - (intOf i).toNat)
  case atStart => exact ⟨0, .inr rfl, rfl, RiseTo.one xs, 0, rfl⟩
  case round =>
    obtain ⟨k, hk, rfl, hj, n0, rfl⟩ := hrel
    have HJ := Lib.hid hj; clear hj
    by_cases hlt : k + 1 < xs.length
    · obtain ⟨b, o, rfl, hb1, hc1⟩ := R.out (by omega)
      obtain ⟨x, hx⟩ := get_ex (show k < xs.length by omega)
      obtain ⟨y, hy⟩ := get_ex hlt
      have k1 := hc1 k x hx
      have k2 := hc1 (k + 1) y hy
      have HX := Lib.hid hx; clear hx hc1
      have HY := Lib.hid hy; clear hy
      have e1 : (k : Int) + 1 < (xs.length : Int) := by omega
      have e2 : (0 : Int) ≤ (k : Int) + 1 := by omega
      have e3 : ((k : Int) + 1).toNat = k + 1 := by omega
      have e4 : IntKind.i64.wrap ((k : Int) + 1 - 1) = (k : Int) := by rw [IntWalk.i64_in _ (by omega)]; omega
      have e5 : (k : Int) < (xs.length : Int) := by omega
      by_cases hxy : y ≤ x
      · have d : decide (y ≤ x) = true := decide_eq_true hxy
        go_wp2
        go_quiet (fail)
        go_wp2
        go_ret
        exact ⟨ret_bool (riseB_no HX.out HY.out hxy).symm, below_drewN (below_drewN (Below.refl _ _) _) _⟩
      · have d : decide (y ≤ x) = false := decide_eq_false hxy
        go_wp2
        go_quiet (fail)
        go_wp2
        go_roundw
        case rel => exact ⟨k + 1, .inl (by omega), by go_num, HJ.out.step HX.out HY.out (by omega), _, rfl⟩
        case measure => simp [intOf]; omega
    · go_wp2
      go_ret
      exact ⟨ret_bool (HJ.out.all (by omega)).symm, below_drewN (Below.refl _ _) _⟩
set_option maxHeartbeats 1600000 in
theorem l4Queue_calls (v : Value) (q : List (Int × Bool)) (w : World) (h : WRow w v q) :
    Calls Tryd.prog 41 #[v] w fun e w' => ∃ v', e = .returned v' ∧ LOwn w.heap.size w'.heap.size w' v' ((q.take 7).map (·.1)) ∧ Below w.heap.size w w' := by
  obtain ⟨a, c, rfl, l, m, r⟩ := h.look
  have R := Lib.hid r; clear r
  have hm : q.length ≤ 9223372036854775807 := by omega
  go_enter Tryd.func41, Tryd.ntmps41
  go_wp2
  go_loopw [3, 4] (fun t i wr => ∃ k : Nat, k ≤ q.length ∧ k ≤ 7 ∧ i = .int .i64 k ∧ Own w.heap.size 3 1 encI wr t ((q.take k).map (·.1)) ∧ Below w.heap.size w wr ∧ w.heap.size < wr.heap.size) (fun _ i _ => q.length - (intOf i).toNat)
  case atStart => exact ⟨0, Nat.zero_le _, by omega, rfl, Own.empty (heap_at w _) (Nat.le_refl _), (Below.refl _ _).alloc (Nat.le_refl _) _, by simp⟩
  case round =>
    obtain ⟨k, hk, hk7, rfl, ho, hb, hz⟩ := hrel
    have HO := Lib.hid ho
    have HB := Lib.hid hb; clear hb
    by_cases hlt : k < q.length
    · by_cases h6 : k ≤ 6
      · obtain ⟨b, o, rfl, hb1, hc1⟩ := R.out (by omega)
        obtain ⟨x, hx⟩ := get_ex hlt
        have hk1 := (HB.out.cell (p := ⟨b, o + k * 2, none⟩) hb1).trans (hc1 k x hx).1
        have hk2 := (HB.out.cell (p := ⟨b, o + k * 2 + 1, none⟩) hb1).trans (hc1 k x hx).2
        obtain ⟨ts, hts⟩ : ∃ ts, (q.take k).map (·.1) = ts := ⟨_, rfl⟩
        have hl : ts.length = k := by rw [← hts]; simp; omega
        have hL : (ts.length + 1) * 8 ≤ 140737488355328 := by omega
        have HL := Lib.hid hL; clear hL
        have HLL := Lib.hid hl; clear hl
        rw [hts] at ho
        obtain ⟨ad, cp, rfl⟩ := ho.form
        have HO1 := Lib.hid ho; clear ho
        have HTS := Lib.hid hts; clear hts
        have HX := Lib.hid hx; clear hx hc1
        go_wp2_with (at_builtin; (refine wpList_snoc _ encI_len encI_one rfl _ _ 22 rfl 3 _ 8 Tryd.underlying22 info_int rfl (by decide) w.heap.size (.slice ad ts.length cp) ts rfl HO1.out x.1 _ rfl _ rfl rfl (by decide) HL.out (by omega) ?_); intro ad1 cp1 w1 hown hg hat; have HO3 := Lib.hid hown; have HG1 := Lib.hid hg; have hz1 := hg.size; clear hown hg hat)
        go_roundw
        case rel =>
          refine ⟨k + 1, by omega, by omega, by go_num, ?_, push_below HB.out HG1.out HO1.out.blk (by omega) (Nat.le_refl _), by simp only [szA] at hz1; omega⟩
          rw [take_snoc HX.out, List.map_append, HTS.out]; exact HO3.out
        case measure => simp [intOf]; omega
      · have e : k = 7 := by omega
        subst e
        clear ho
        go_wp2
        go_ret
        exact ⟨_, rfl, LOwn.of HO.out (Nat.le_refl _), HB.out⟩
    · have e : q.take k = q.take 7 := by rw [take_all (by omega), take_all (by omega)]
      rw [e] at ho
      have HO2 := Lib.hid ho; clear ho e
      go_wp2
      go_ret
      exact ⟨_, rfl, LOwn.of HO2.out (Nat.le_refl _), HB.out⟩
end Go.Proofs.YtbnfhnfnbhigoaaDoor
