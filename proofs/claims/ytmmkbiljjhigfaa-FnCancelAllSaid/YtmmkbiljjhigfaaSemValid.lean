/- impl.SemValid: what it returns. -/
import Derived.Test.YtmmkbiljjhigfaaSemPlain
import Derived.Test.YtmmkbiljjhigfaaInfo
import Derived.Deep.RegionHeld3
namespace Go.Proofs.Ytmmkbiljjhigfaa
open Go.RowKit
set_option linter.unusedSimpArgs false
set_option linter.unusedVariables false



theorem SemValid_round {q : List (Int × Int)} {k : Nat} {x : Int × Int} {l : Int} {w W wr w1 : World} {t v' : Value} {o : Obj} (hx : q[k]? = some x) (hc : ∀ x ∈ q.take k, 1 ≤ x.2 ∧ x.2 ≤ l) (h : 1 ≤ x.2 ∧ x.2 ≤ l)
    (ho : Own (w.heap.size + 1) 3 1 encI wr t ((q.take k).map (·.1))) (hb : Below (w.heap.size + 1) W wr) (hown : w1.ownsRow (w.heap.size + 1) 3 1 v' (((q.take k).map (·.1)).length + 1) (((q.take k).map (·.1)).flatMap encI ++ [.int .i64 x.1]))
    (hg : ((wr.alloc o).alloc (.cells [.int .i64 x.1].toArray 3)).grownBy w1 t.ownBlock) (hz : w.heap.size < wr.heap.size) :
    Own (w.heap.size + 1) 3 1 encI w1 v' ((q.take (k + 1)).map (·.1)) ∧ Below (w.heap.size + 1) W w1 ∧ (∀ x ∈ q.take (k + 1), 1 ≤ x.2 ∧ x.2 ≤ l) := by
  rw [take_snoc hx]
  refine ⟨?_, ?_, ?_⟩
  · simpa [Own, encI] using hown
  · refine ((hb.alloc (by omega) _).alloc (by simp; omega) _).trans (grown_below hg (by simp; omega) fun g e => (ho.block g e).1)
  · intro y hy
    rcases List.mem_append.1 hy with hy | hy
    · exact hc y hy
    · simp only [List.mem_singleton] at hy; subst hy; exact h

theorem semB_end {f l : Int} {q : List (Int × Int)} {x : Int × Int} (h1 : SemHead f l q.length) (h2 : ∀ x ∈ q, 1 ≤ x.2 ∧ x.2 ≤ l) (h3 : distB (q.map (·.1)) = true) (hx : q[0]? = some x) : decide (f < x.2) = semB ⟨f, l, q⟩ := by
  by_cases h : f < x.2
  · rw [semB_yes h1 h2 h3 (fun y hy => by rw [hx] at hy; cases hy; exact h)]; simpa using h
  · rw [semB_over (s := ⟨f, l, q⟩) hx h]; simpa using h
theorem semB_end0 {f l : Int} {q : List (Int × Int)} (h1 : SemHead f l q.length) (h2 : ∀ x ∈ q, 1 ≤ x.2 ∧ x.2 ≤ l) (h3 : distB (q.map (·.1)) = true) (hq : q.length = 0) : true = semB ⟨f, l, q⟩ :=
  (semB_yes (s := ⟨f, l, q⟩) h1 h2 h3 (fun y hy => by have := get_lt hy; simp only at this; omega)).symm

theorem SemValid_calls (f l : Int) (v : Value) (q : List (Int × Int)) (w : World) (h : PRow w v q) :
    Calls Try.prog 37 #[.agg #[.int .i64 f, .int .i64 l, v]] w fun e w' => e = .returned (.bool (semB ⟨f, l, q⟩)) ∧ Below w.heap.size w w' := by
  obtain ⟨a, c, rfl, hl, m, r⟩ := h.look
  have R := Lib.hid r; clear r
  have L := Lib.hid hl; clear hl
  by_cases hh : SemHead f l q.length
  · have HH := Lib.hid hh
    obtain ⟨g1, g2, g3, g4, g5⟩ := hh
    have d1 : decide (l < 1) = false := by simp; omega
    have d2 : decide ((9 : Int) < l) = false := by simp; omega
    have d3 : decide (f < 0) = false := by simp; omega
    have d4 : decide (l < f) = false := by simp; omega
    have d5 : decide ((6 : Int) < (q.length : Int)) = false := by simp; omega
    go_enter Try.func37, Try.ntmps37
    go_wp2
    go_loopw [3, 35] (fun t i wr => ∃ k : Nat, k ≤ q.length ∧ i = .int .i64 k ∧ Own (w.heap.size + 1) 3 1 encI wr t ((q.take k).map (·.1)) ∧
        Below (w.heap.size + 1) (w.alloc (.cells #[.int .i64 f, .int .i64 l, .slice a q.length c] 48)) wr ∧ (∀ x ∈ q.take k, 1 ≤ x.2 ∧ x.2 ≤ l)) (fun _ i _ => q.length - (intOf i).toNat)
    case atStart => exact ⟨0, Nat.zero_le _, rfl, Own.nil _ _ _ _ _, Below.refl _ _, by simp⟩
    case round =>
      obtain ⟨k, hk, rfl, ho, hb, hc⟩ := hrel
      have HO := Lib.hid ho; clear ho
      have HC := Lib.hid hc; clear hc
      have HB := Lib.hid hb; clear hb
      have s0 : wr.cell? ⟨w.heap.size, 0, none⟩ = some (.int .i64 f) := (HB.out.cell (p := ⟨w.heap.size, 0, none⟩) (by simp)).trans (by simp)
      have s1 : wr.cell? ⟨w.heap.size, 1, none⟩ = some (.int .i64 l) := (HB.out.cell (p := ⟨w.heap.size, 1, none⟩) (by simp)).trans (by simp)
      have s2 : wr.cell? ⟨w.heap.size, 2, none⟩ = some (.slice a q.length c) := (HB.out.cell (p := ⟨w.heap.size, 2, none⟩) (by simp)).trans (by simp)
      have hz : w.heap.size < wr.heap.size := by have := HB.out.size; simp at this; omega
      by_cases hlt : k < q.length
      · obtain ⟨b, o, rfl, hb1, hc1⟩ := R.out (by omega)
        obtain ⟨x, hx⟩ := get_ex hlt
        have hk1 := ((HB.out).cell (p := ⟨b, o + k * 2, none⟩) (by simp; omega)).trans ((Below.cell ((Below.refl _ _).alloc (Nat.le_refl _) _) hb1).trans (hc1 k x hx).1)
        have hk2 := ((HB.out).cell (p := ⟨b, o + k * 2 + 1, none⟩) (by simp; omega)).trans ((Below.cell ((Below.refl _ _).alloc (Nat.le_refl _) _) hb1).trans (hc1 k x hx).2)
        have hL : (((q.take k).map (·.1)).length + 1) * 8 ≤ 140737488355328 := by simp; omega
        have HL := Lib.hid hL; clear hL
        have HX := Lib.hid hx; clear hx hc1
        by_cases h1 : 1 ≤ x.2
        · by_cases h2 : x.2 ≤ l
          · go_wp2_with (at_builtin; (refine wpList_push _ rfl _ _ 23 rfl (w.heap.size + 1) 3 (.int .i64 0) 1 8 Try.underlying23 info_int rfl (by decide) _ _ _ rfl (HO.out.alloc _) [.int .i64 x.1] _ rfl (by simp) rfl (one_int _) HL.out (by decide) (by simp; omega) ?_); intro v' w1 hown hg hat)
            have K := SemValid_round HX.out HC.out ⟨h1, h2⟩ HO.out HB.out hown hg hz
            clear hown hg hat
            go_wp2
            go_roundw
            case rel => exact ⟨k + 1, by omega, by go_num, K.1, K.2.1, K.2.2⟩
            case measure => simp [intOf]; omega
          · go_wp2
            go_ret
            exact ⟨ret_bool (semB_cnt HX.out (by simp; omega)).symm, (((Below.refl _ _).alloc (Nat.le_refl _) _).trans (HB.out.mono (by omega))).alloc (by omega) _⟩
        · go_wp2
          go_ret
          exact ⟨ret_bool (semB_cnt HX.out (by simp; omega)).symm, (((Below.refl _ _).alloc (Nat.le_refl _) _).trans (HB.out.mono (by omega))).alloc (by omega) _⟩
      · have ek : q.take k = q := take_all (by omega)
        have ho2 := HO.out
        have hc2 := HC.out
        rw [ek] at ho2 hc2
        have hir : IRow wr u3 (q.map (·.1)) := ho2.row encI_len
        have HI := Lib.hid hir; clear hir
        have HO2 := Lib.hid ho2; clear ho2
        have HC2 := Lib.hid hc2; clear hc2
        have EK := Lib.hid ek; clear ek
        have t0 := later_cell s0 hz
        have t1 := later_cell s1 hz
        have t2 := later_cell s2 hz
        cases hdb : distB (q.map (·.1))
        · have HD := Lib.hid hdb; clear hdb
          go_wp2
          refine wp_region_later wr.heap.size (by kernel_rfl) (by kernel_rfl) ?_
          repeat (go_big_quiet_step ((go_at_call 62; refine (distinct_calls _ _ _ (HI.out.later _)).mono ?_; rintro e w' ⟨rfl, hb⟩; rw [HD.out]; exact later_call hb)))
          refine wpQuiet_nil ?_
          rintro _ ⟨y, rfl⟩
          go_wp2
          go_ret
          exact ⟨ret_bool (semB_dist HD.out).symm, (((Below.refl _ _).alloc (Nat.le_refl _) _).trans (HB.out.mono (by omega))).trans (y.2.mono (by omega))⟩
        · have HD := Lib.hid hdb; clear hdb
          by_cases hq : 0 < q.length
          · obtain ⟨b, o, rfl, hb1, hc1⟩ := R.out hq
            obtain ⟨x, hx⟩ := get_ex hq
            have k2 := ((HB.out).cell (p := ⟨b, o + 1, none⟩) (by simp; omega)).trans ((Below.cell ((Below.refl _ _).alloc (Nat.le_refl _) _) hb1).trans (by simpa using (hc1 0 x hx).2))
            have t3 := later_cell k2 (Nat.lt_trans hb1 hz)
            have HX := Lib.hid hx; clear hx hc1
            have e1 := len_ne hq
            go_wp2
            refine wp_region_later wr.heap.size (by kernel_rfl) (by kernel_rfl) ?_
            repeat (go_big_quiet_step ((go_at_call 62; refine (distinct_calls _ _ _ (HI.out.later _)).mono ?_; rintro e w' ⟨rfl, hb⟩; rw [HD.out]; exact later_call hb)))
            refine wpQuiet_nil ?_
            rintro _ ⟨y, rfl⟩
            go_wp2
            go_ret
            exact ⟨ret_bool (semB_end HH.out HC2.out HD.out HX.out), (((Below.refl _ _).alloc (Nat.le_refl _) _).trans (HB.out.mono (by omega))).trans (y.2.mono (by omega))⟩
          · have e1 := len_eq hq
            go_wp2
            refine wp_region_later wr.heap.size (by kernel_rfl) (by kernel_rfl) ?_
            repeat (go_big_quiet_step ((go_at_call 62; refine (distinct_calls _ _ _ (HI.out.later _)).mono ?_; rintro e w' ⟨rfl, hb⟩; rw [HD.out]; exact later_call hb)))
            refine wpQuiet_nil ?_
            rintro _ ⟨y, rfl⟩
            go_wp2
            go_ret
            exact ⟨ret_bool (semB_end0 HH.out HC2.out HD.out (by omega)), (((Below.refl _ _).alloc (Nat.le_refl _) _).trans (HB.out.mono (by omega))).trans (y.2.mono (by omega))⟩
  · have HH := Lib.hid hh; clear hh
    go_enter Try.func37, Try.ntmps37
    go_wp2
    all_goals first
      | (go_ret; exact ⟨ret_bool (semB_head HH.out).symm, (Below.refl _ _).alloc (Nat.le_refl _) _⟩)
      | (exfalso; exact HH.out ⟨by omega, by omega, by omega, by omega, by omega⟩)
end Go.Proofs.Ytmmkbiljjhigfaa
