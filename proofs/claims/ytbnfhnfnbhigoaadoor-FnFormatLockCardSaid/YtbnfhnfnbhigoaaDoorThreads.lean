/- impl.isThread, impl.distinctThreads, spec.l1Thread: what they return. -/
import Derived.Test.YtbnfhnfnbhigoaaDoorSeen
namespace Go.Proofs.YtbnfhnfnbhigoaaDoor
open Go.RowKit
set_option linter.unusedSimpArgs false
set_option linter.unusedVariables false

def Thr (t : Int) : Prop := 0 ≤ t ∧ t < 6
instance (t : Int) : Decidable (Thr t) := by unfold Thr; infer_instance
def thrB (t : Int) : Bool := decide (0 ≤ t) && decide (t < 6)
theorem thrB_true {t : Int} : thrB t = true ↔ Thr t := by simp [thrB, Thr]
theorem thrB_false {t : Int} : thrB t = false ↔ ¬ Thr t := by rw [← thrB_true]; simp
def Distinct (xs : List Int) : Prop := (∀ x ∈ xs, Thr x) ∧ xs.Nodup
instance (xs : List Int) : Decidable (Distinct xs) := by unfold Distinct; infer_instance
def distB (xs : List Int) : Bool := decide (Distinct xs)

theorem Distinct.snoc {xs : List Int} {x : Int} (h : Distinct xs) (ht : thrB x = true) (hn : x ∉ xs) : Distinct (xs ++ [x]) := by
  rw [thrB_true] at ht
  refine ⟨fun y hy => ?_, ?_⟩
  · rcases List.mem_append.1 hy with hy | hy
    · exact h.1 y hy
    · simp only [List.mem_singleton] at hy; subst hy; exact ht
  · rw [List.nodup_append]
    exact ⟨h.2, by simp, fun a ha b hb => by simp only [List.mem_singleton] at hb; subst hb; intro e; exact hn (e ▸ ha)⟩
theorem Distinct.bad_thr {xs : List Int} {k : Nat} {x : Int} (hk : xs[k]? = some x) (ht : thrB x = false) : distB xs = false := by
  rw [thrB_false] at ht
  simp only [distB, decide_eq_false_iff_not]
  exact fun h => ht (h.1 _ (get_mem hk))
theorem Distinct.bad_in {xs : List Int} {k : Nat} {x : Int} (hk : xs[k]? = some x) (hi : x ∈ xs.take k) : distB xs = false := by
  simp only [distB, decide_eq_false_iff_not]
  intro h
  have h2 := h.2
  rw [← List.take_append_drop (k + 1) xs, take_snoc hk, List.append_assoc, List.nodup_append] at h2
  exact h2.2.2 _ hi _ (by simp) rfl

theorem isThread_calls (t : Int) (w : World) :
    Calls Tryd.prog 51 #[.int .i64 t] w fun e w' => e = .returned (.bool (thrB t)) ∧ w = w' := by
  by_cases h : 0 ≤ t
  all_goals
    go_enter Tryd.func51, Tryd.ntmps51
    go_wp2
    all_goals go_ret
    all_goals exact ⟨ret_bool (by first | (simp [thrB, h]; done) | (simp [thrB]; omega)), rfl⟩

theorem l1Thread_calls (t : Int) (w : World) :
    Calls Tryd.prog 52 #[.int .i64 t] w fun e w' => e = .returned (.bool (thrB t)) ∧ w = w' := by
  by_cases h : 0 ≤ t
  all_goals
    go_enter Tryd.func52, Tryd.ntmps52
    go_wp2
    all_goals go_ret
    all_goals exact ⟨ret_bool (by first | (simp [thrB, h]; done) | (simp [thrB]; omega)), rfl⟩

theorem seen_types : Tryd.prog.underlying 79 = some (.map 3 4) := by kernel_rfl

theorem distinct_calls (v : Value) (xs : List Int) (w : World) (h : IRow w v xs) :
    Calls Tryd.prog 39 #[v] w fun e w' => e = .returned (.bool (distB xs)) ∧ Below w.heap.size w w' := by
  obtain ⟨a, c, rfl, l, m, r⟩ := h.look
  have R := Lib.hid r; clear r
  have L := Lib.hid l; clear l
  have hm : xs.length ≤ 9223372036854775807 := by have := L.out; omega
  have hmm := @run_makeMap Tryd.prog
  go_enter Tryd.func39, Tryd.ntmps39
  go_wp2
  go_loopw [9] (fun i wr => ∃ k : Nat, k ≤ xs.length ∧ i = .int .i64 k ∧ wr.heap[w.heap.size]? = some (seenObj (xs.take k)) ∧ Below w.heap.size w wr ∧ Distinct (xs.take k)) (fun i _ => xs.length - (intOf i).toNat)
  case atStart => exact ⟨0, Nat.zero_le _, rfl, heap_alloc_new w _, (Below.refl _ _).alloc (Nat.le_refl _) _, by simp [Distinct]⟩
  case round =>
    obtain ⟨k, hk, rfl, hs, hb, hd⟩ := hrel
    have HS := Lib.hid hs; clear hs
    have HD := Lib.hid hd; clear hd
    have HB := Lib.hid hb; clear hb
    by_cases hlt : k < xs.length
    · obtain ⟨b, o, rfl, hb1, hc1⟩ := R.out (by omega)
      obtain ⟨x, hx⟩ := get_ex hlt
      have hk1 := ((HB.out).cell (p := ⟨b, o + k, none⟩) hb1).trans (hc1 k x hx)
      have HX := Lib.hid hx; clear hx hc1
      cases ht : thrB x
      · go_wp2_with (go_at_call 51; refine (isThread_calls _ _).mono ?_; rintro e w' ⟨rfl, rfl⟩)
        go_ret
        exact ⟨ret_bool (Distinct.bad_thr HX.out ht).symm, HB.out⟩
      · have hlk := run_seen seen_types (by kernel_rfl) (fun w => by kernel_rfl) HS.out x
        by_cases hin : x ∈ xs.take k
        · simp only [hin, decide_true] at hlk
          have HI := Lib.hid hin; clear hin
          go_wp2_with (go_at_call 51; refine (isThread_calls _ _).mono ?_; rintro e w' ⟨rfl, rfl⟩)
          go_ret
          exact ⟨ret_bool (Distinct.bad_in HX.out HI.out).symm, HB.out⟩
        · simp only [hin, decide_false] at hlk
          have hup := run_see seen_types (by kernel_rfl) HS.out x hin
          change _ = Result.ok () (sawWorld wr w.heap.size (xs.take k ++ [x])) at hup
          have HI := Lib.hid hin; clear hin
          go_wp2_with (go_at_call 51; refine (isThread_calls _ _).mono ?_; rintro e w' ⟨rfl, rfl⟩)
          go_roundw
          case rel =>
            have e1 := take_snoc HX.out
            refine ⟨k + 1, by omega, by go_num, ?_, saw_below _ HB.out (Nat.le_refl _), ?_⟩
            · rw [e1]; exact saw_at _ (Array.getElem?_eq_some_iff.1 HS.out).1
            · rw [e1]; exact HD.out.snoc ht HI.out
          case measure => simp [intOf]; omega
    · go_wp2
      go_ret
      have e1 : xs.take k = xs := take_all (by omega)
      refine ⟨ret_bool ?_, HB.out⟩
      have := HD.out
      rw [e1] at this
      simp [distB, this]
end Go.Proofs.YtbnfhnfnbhigoaaDoor
