/- spec.SemValid: what it returns. -/
import Derived.Test.YtmmkbiljjhigfaaSemValid
namespace Go.Proofs.Ytmmkbiljjhigfaa
open Go.RowKit
set_option linter.unusedSimpArgs false
set_option linter.unusedVariables false

theorem semB_thr {s : SemD} {k : Nat} {x : Int × Int} (hx : s.q[k]? = some x) (h : thrB x.1 = false) : semB s = false := semB_false.2 fun hk => by
  rw [thrB_false] at h
  exact h (hk.2.2.1.1 _ (List.mem_map.2 ⟨x, get_mem hx, rfl⟩))
theorem semB_twice {s : SemD} {j k : Nat} {x y : Int × Int} (hj : j < k) (hx : s.q[k]? = some x) (hy : s.q[j]? = some y) (h : y.1 = x.1) : semB s = false := by
  refine semB_dist (Distinct.bad_in (k := k) (x := x.1) (by simp [hx]) ?_)
  rw [← h]
  exact List.mem_of_getElem? (i := j) (by rw [List.getElem?_take_of_lt hj]; simp [hy])

theorem sSemValid_calls (f l : Int) (v : Value) (q : List (Int × Int)) (w : World) (h : PRow w v q) :
    Calls Try.prog 73 #[.agg #[.int .i64 f, .int .i64 l, v]] w fun e w' => e = .returned (.bool (semB ⟨f, l, q⟩)) ∧ Below w.heap.size w w' := by
  obtain ⟨a, c, rfl, hl, m, r⟩ := h.look
  have R := Lib.hid r; clear r
  have L := Lib.hid hl; clear hl
  by_cases hh : SemHead f l q.length
  · have HH := Lib.hid hh
    obtain ⟨g1, g2, g3, g4, g5⟩ := hh
    have d1 : decide (l < 1) = false := by simp; omega
    have d2 : decide ((9 : Int) < l) = false := by simp; omega
    have d3 : decide (f < 0) = false := by simp; omega
    have d4 : decide (l < f) = false := by simp; omega
    have d5 : decide ((6 : Int) < (q.length : Int)) = false := by simp; omega
    go_enter Try.func73, Try.ntmps73
    go_wp2
    go_loopw [3] (fun i wr => ∃ k : Nat, k ≤ q.length ∧ i = .int .i64 k ∧
        Below (w.heap.size + 1) (w.alloc (.cells #[.int .i64 f, .int .i64 l, .slice a q.length c] 48)) wr ∧ (∀ x ∈ q.take k, 1 ≤ x.2 ∧ x.2 ≤ l) ∧ Distinct ((q.take k).map (·.1))) (fun i _ => q.length - (intOf i).toNat)
    case atStart => exact ⟨0, Nat.zero_le _, rfl, Below.refl _ _, by simp, by simp [Distinct]⟩
    case round =>
      obtain ⟨k, hk, rfl, hb, hc, hds⟩ := hrel
      have HC := Lib.hid hc; clear hc
      have HB := Lib.hid hb; clear hb
      have HD := Lib.hid hds; clear hds
      have s0 : wr.cell? ⟨w.heap.size, 0, none⟩ = some (.int .i64 f) := (HB.out.cell (p := ⟨w.heap.size, 0, none⟩) (by simp)).trans (by simp)
      have s1 : wr.cell? ⟨w.heap.size, 1, none⟩ = some (.int .i64 l) := (HB.out.cell (p := ⟨w.heap.size, 1, none⟩) (by simp)).trans (by simp)
      have s2 : wr.cell? ⟨w.heap.size, 2, none⟩ = some (.slice a q.length c) := (HB.out.cell (p := ⟨w.heap.size, 2, none⟩) (by simp)).trans (by simp)
      have hz : w.heap.size < wr.heap.size := by have := HB.out.size; simp at this; omega
      by_cases hlt : k < q.length
      · obtain ⟨b, o, rfl, hb1, hc1⟩ := R.out (by omega)
        obtain ⟨x, hx⟩ := get_ex hlt
        have cellq : ∀ i y, q[i]? = some y → wr.cell? ⟨b, o + i * 2, none⟩ = some (.int .i64 y.1) ∧ wr.cell? ⟨b, o + i * 2 + 1, none⟩ = some (.int .i64 y.2) := fun i y hy =>
          ⟨((HB.out).cell (p := ⟨b, o + i * 2, none⟩) (by simp; omega)).trans ((Below.cell ((Below.refl _ _).alloc (Nat.le_refl _) _) hb1).trans (hc1 i y hy).1),
           ((HB.out).cell (p := ⟨b, o + i * 2 + 1, none⟩) (by simp; omega)).trans ((Below.cell ((Below.refl _ _).alloc (Nat.le_refl _) _) hb1).trans (hc1 i y hy).2)⟩
        have CQ := Lib.hid cellq; clear cellq hc1
        have hk1 := (CQ.out k x hx).1
        have hk2 := (CQ.out k x hx).2
        have HX := Lib.hid hx; clear hx
        cases ht : thrB x.1
        · go_wp2_with (go_at_call 58; refine (l1Thread_calls _ _).mono ?_; rintro e w' ⟨rfl, rfl⟩)
          go_ret
          exact ⟨ret_bool (semB_thr HX.out ht).symm, (((Below.refl _ _).alloc (Nat.le_refl _) _).trans (HB.out.mono (by omega))).alloc (by omega) _⟩
        · by_cases h1 : 1 ≤ x.2
          · by_cases h2 : x.2 ≤ l
            · have e1 : decide (x.2 < 1) = false := by simp; omega
              have e2 : decide (l < x.2) = false := by simp; omega
              go_wp2_with (go_at_call 58; refine (l1Thread_calls _ _).mono ?_; rintro e w' ⟨rfl, rfl⟩)
              obtain ⟨wo, hwo⟩ : ∃ wo : World, wo = wr := ⟨_, rfl⟩
              subst hwo
              go_loopw [5] (fun j wi => ∃ i : Nat, i ≤ k ∧ j = .int .i64 i ∧ (∀ y ∈ q.take i, y.1 ≠ x.1) ∧ ∃ n, wi = (wo.alloc (.cells #[.int .i64 x.1, .int .i64 x.2] 62)).drewN n) (fun j _ => k - (intOf j).toNat)
              case atStart => exact ⟨0, Nat.zero_le _, rfl, by simp, 0, rfl⟩
              case round =>
                obtain ⟨i, hi, rfl, hne, n0, rfl⟩ := hrel
                have HN := Lib.hid hne; clear hne
                by_cases hik : i < k
                · obtain ⟨y, hy⟩ := get_ex (show i < q.length by omega)
                  have c1 := (CQ.out i y hy).1
                  have HY := Lib.hid hy; clear hy
                  have hb2 : b < wo.heap.size := by omega
                  go_wp2
                  go_quiet (fail)
                  go_wp2
                  · go_ret
                    exact ⟨ret_bool (semB_twice hik HX.out HY.out (by simpa using ‹(y.1 == x.1) = true›)).symm, below_drewN (below_drewN ((((Below.refl _ _).alloc (Nat.le_refl _) _).trans (HB.out.mono (by omega))).alloc (by omega) _) _) _⟩
                  · go_roundw
                    case rel =>
                      refine ⟨i + 1, by omega, by go_num, ?_, _, rfl⟩
                      rw [take_snoc HY.out]
                      intro z hz
                      rcases List.mem_append.1 hz with hz | hz
                      · exact HN.out z hz
                      · simp only [List.mem_singleton] at hz; subst hz; simpa using ‹(z.1 == x.1) = false›
                    case measure => simp [intOf]; omega
                · obtain rfl : i = k := by omega
                  go_wp2
                  go_roundw
                  case rel =>
                    refine ⟨i + 1, by omega, by go_num, below_drewN (HB.out.alloc (by omega) _) _, ?_, ?_⟩
                    · rw [take_snoc HX.out]
                      intro z hz
                      rcases List.mem_append.1 hz with hz | hz
                      · exact HC.out z hz
                      · simp only [List.mem_singleton] at hz; subst hz; exact ⟨h1, h2⟩
                    · rw [take_snoc HX.out, List.map_append]
                      refine HD.out.snoc ht fun hm => ?_
                      obtain ⟨z, hz, e⟩ := List.mem_map.1 hm
                      exact HN.out z hz e
                  case measure => simp [intOf]; omega
            · have e1 : decide (x.2 < 1) = false := by simp; omega
              have e2 : decide (l < x.2) = true := by simp; omega
              go_wp2_with (go_at_call 58; refine (l1Thread_calls _ _).mono ?_; rintro e w' ⟨rfl, rfl⟩)
              go_ret
              exact ⟨ret_bool (semB_cnt HX.out (by simp; omega)).symm, (((Below.refl _ _).alloc (Nat.le_refl _) _).trans (HB.out.mono (by omega))).alloc (by omega) _⟩
          · have e1 : decide (x.2 < 1) = true := by simp; omega
            go_wp2_with (go_at_call 58; refine (l1Thread_calls _ _).mono ?_; rintro e w' ⟨rfl, rfl⟩)
            go_ret
            exact ⟨ret_bool (semB_cnt HX.out (by simp; omega)).symm, (((Below.refl _ _).alloc (Nat.le_refl _) _).trans (HB.out.mono (by omega))).alloc (by omega) _⟩
      · have hc2 := HC.out
        have hd2 := HD.out
        rw [take_all (by omega)] at hc2 hd2
        have hdb : distB (q.map (·.1)) = true := by simpa [distB] using hd2
        have HC2 := Lib.hid hc2; clear hc2
        have HD2 := Lib.hid hdb; clear hdb hd2
        by_cases hq : 0 < q.length
        · obtain ⟨b, o, rfl, hb1, hc1⟩ := R.out hq
          obtain ⟨x, hx⟩ := get_ex hq
          have k2 := ((HB.out).cell (p := ⟨b, o + 1, none⟩) (by simp; omega)).trans ((Below.cell ((Below.refl _ _).alloc (Nat.le_refl _) _) hb1).trans (by simpa using (hc1 0 x hx).2))
          have HX := Lib.hid hx; clear hx hc1
          have e1 := len_ne hq
          go_wp2
          go_quiet (fail)
          go_wp2
          go_ret
          exact ⟨ret_bool (semB_end HH.out HC2.out HD2.out HX.out), below_drewN (((Below.refl _ _).alloc (Nat.le_refl _) _).trans (HB.out.mono (by omega))) _⟩
        · have e1 := len_eq hq
          go_wp2
          go_quiet (fail)
          go_wp2
          go_ret
          exact ⟨ret_bool (semB_end0 HH.out HC2.out HD2.out (by omega)), below_drewN (((Below.refl _ _).alloc (Nat.le_refl _) _).trans (HB.out.mono (by omega))) _⟩
  · have HH := Lib.hid hh; clear hh
    go_enter Try.func73, Try.ntmps73
    go_wp2
    all_goals first
      | (go_ret; exact ⟨ret_bool (semB_head HH.out).symm, (Below.refl _ _).alloc (Nat.le_refl _) _⟩)
      | (exfalso; exact HH.out ⟨by omega, by omega, by omega, by omega, by omega⟩)
end Go.Proofs.Ytmmkbiljjhigfaa
