/- OnceValid of both: what it returns (made by gen_once.py). -/
import Derived.Test.YtmmkbiljjhigfaaStOnce
import Derived.Test.YtmmkbiljjhigfaaWaits
namespace Go.Proofs.Ytmmkbiljjhigfaa
open Go.RowKit
set_option linter.unusedSimpArgs false
set_option linter.unusedVariables false
def onceB (o : OnceD) : Bool :=
  if o.state = 0 then decide (o.owner = 0) && (decide (o.value = 0) && decide (o.waits.length = 0))
  else if o.state = 1 then thrB o.owner && (decide (o.value = 0) && (distB o.waits && !decide (o.owner ∈ o.waits)))
  else if o.state = 2 then thrB o.owner && (valB o.value && decide (o.waits.length = 0))
  else false
theorem onceB_st {o : OnceD} (h : onceB o = true) : (o.state = 0 ∧ o.owner = 0 ∧ o.value = 0 ∧ o.waits = []) ∨ (o.state = 1 ∧ Thr o.owner ∧ o.value = 0 ∧ Distinct o.waits ∧ o.owner ∉ o.waits) ∨ (o.state = 2 ∧ Thr o.owner ∧ Val o.value ∧ o.waits = []) := by
  unfold onceB at h
  split at h
  · rename_i h0
    simp at h
    exact .inl ⟨h0, h.1, h.2.1, h.2.2⟩
  · split at h
    · rename_i h1
      simp [thrB_true, distB] at h
      exact .inr (.inl ⟨h1, h.1, h.2.1, h.2.2.1, h.2.2.2⟩)
    · split at h
      · rename_i h2
        simp [thrB_true, valB_true] at h
        exact .inr (.inr ⟨h2, h.1, h.2.1, h.2.2⟩)
      · cases h
theorem onceB_len {o : OnceD} (h : onceB o = true) : o.waits.length ≤ 6 := by
  rcases onceB_st h with h | h | h
  · rw [h.2.2.2]; simp
  · exact h.2.2.2.1.six
  · rw [h.2.2.2]; simp
set_option maxHeartbeats 3200000 in
theorem OnceValid_calls (v : Value) (o : OnceD) (w : World) (h : OnceRow w v o) :
    Calls Try.prog 17 #[v] w fun e w' => e = .returned (.bool (onceB o)) ∧ Below w.heap.size w w' := by
  obtain ⟨st, ow, va, ws⟩ := o
  obtain ⟨a3, p3, rfl, r3⟩ := h
  dsimp only at r3 ⊢
  have HI := Lib.hid r3
  obtain ⟨x1, y1, e, l1, m1, r3⟩ := IRow.look r3
  injection e with e1 e2 e3
  subst e1 e3
  clear r3
  have n1 : ws.length ≤ 9223372036854775807 := by omega
  have X0 := Lib.hid (heap_at w (.cells #[.int .i64 st, .int .i64 ow, .int .i64 va, .slice a3 ws.length p3] 25))
  have B00 := Lib.hid ((Below.refl w.heap.size w).alloc (Nat.le_refl _) (.cells #[.int .i64 st, .int .i64 ow, .int .i64 va, .slice a3 ws.length p3] 25))
  by_cases h0 : st = 0
  · subst h0
    by_cases how : ow = 0
    · have dow : (ow == 0) = true := by simpa using how
      have How := Lib.hid how; clear how
      by_cases hva : va = 0
      · have dva : (va == 0) = true := by simpa using hva
        have Hva := Lib.hid hva; clear hva
        by_cases hl : 0 < ws.length
        · have dl := len_ne hl
          have HL := Lib.hid (show ws ≠ [] from fun e => by rw [e] at hl; simp at hl)
          clear hl
          go_enter Try.func17, Try.ntmps17
          go_wp2
          go_ret
          exact ⟨ret_bool (by have z0 := How.out; have z1 := Hva.out; have z2 := HL.out; simp [onceB, z0, z1, z2]), B00.out⟩
        · have dl := len_eq hl
          have HL := Lib.hid (show ws = [] from List.eq_nil_of_length_eq_zero (by omega))
          clear hl
          go_enter Try.func17, Try.ntmps17
          go_wp2
          go_ret
          exact ⟨ret_bool (by have z0 := How.out; have z1 := Hva.out; have z2 := HL.out; simp [onceB, z0, z1, z2]), B00.out⟩
      · have dva : (va == 0) = false := by simpa using hva
        have Hva := Lib.hid hva; clear hva
        go_enter Try.func17, Try.ntmps17
        go_wp2
        go_ret
        exact ⟨ret_bool (by have z0 := How.out; have z1 := Hva.out; simp [onceB, z0, z1]), B00.out⟩
    · have dow : (ow == 0) = false := by simpa using how
      have How := Lib.hid how; clear how
      go_enter Try.func17, Try.ntmps17
      go_wp2
      go_ret
      exact ⟨ret_bool (by have z0 := How.out; simp [onceB, z0]), B00.out⟩
  · by_cases h1 : st = 1
    · subst h1
      clear h0
      by_cases hva : va = 0
      · have dva : (va == 0) = true := by simpa using hva
        have Hva := Lib.hid hva; clear hva
        go_enter Try.func17, Try.ntmps17
        go_wp2_with (fail)
        refine (isThread_calls _ _).mono ?_
        rintro e w' ⟨rfl, rfl⟩
        cases ht : thrB ow
        · have HT := Lib.hid ht; clear ht
          go_wp2
          go_ret
          exact ⟨ret_bool (by have z0 := HT.out; simp [onceB, z0]), B00.out⟩
        · have HT := Lib.hid ht; clear ht
          by_cases h6 : ws.length ≤ 6
          · have d6 : decide ((ws.length : Int) ≤ 6) = true := by simp; omega
            go_wp2_with (fail)
            refine (distinct_calls _ ws _ (Row.below HI.out B00.out)).mono ?_
            rintro e w1 ⟨rfl, hb⟩
            have B1 := Lib.hid (B00.out.trans (hb.mono (by simp only [szA]; omega))); have X1 := Lib.hid (below_at hb X0.out)
            clear hb
            obtain ⟨c0, c1, c2, c3, f0, f1, f2, f3⟩ := box4 X1.out; have lx1 := heap_lt X1.out
            cases hd : distB ws
            · have HD := Lib.hid hd; clear hd
              go_wp2
              go_ret
              exact ⟨ret_bool (by have z0 := HT.out; have z1 := Hva.out; have z2 := HD.out; simp [onceB, z0, z1, z2]), B1.out⟩
            · have HD := Lib.hid hd; clear hd
              go_wp2_with (fail)
              refine (ContainsI_calls _ ws ow _ (Row.below HI.out B1.out)).mono ?_
              rintro e w2 ⟨rfl, rfl⟩
              go_wp2
              go_ret
              exact ⟨ret_bool (by have z0 := HT.out; have z1 := Hva.out; have z2 := HD.out; simp [onceB, z0, z1, z2]), B1.out⟩
          · have d6 : decide ((ws.length : Int) ≤ 6) = false := by simp; omega
            have HD6 : Hid (distB ws = false) := by show distB ws = false; cases hd : distB ws; rfl; exact absurd (Distinct.six (by simpa [distB] using hd)) h6
            clear h6
            go_wp2
            go_ret
            exact ⟨ret_bool (by have z0 := HT.out; have z1 := Hva.out; have z2 := HD6.out; simp [onceB, z0, z1, z2]), B00.out⟩
      · have dva : (va == 0) = false := by simpa using hva
        have Hva := Lib.hid hva; clear hva
        go_enter Try.func17, Try.ntmps17
        go_wp2_with (fail)
        refine (isThread_calls _ _).mono ?_
        rintro e w' ⟨rfl, rfl⟩
        cases ht : thrB ow
        · have HT := Lib.hid ht; clear ht
          go_wp2
          go_ret
          exact ⟨ret_bool (by have z0 := HT.out; simp [onceB, z0]), B00.out⟩
        · have HT := Lib.hid ht; clear ht
          go_wp2
          go_ret
          exact ⟨ret_bool (by have z0 := HT.out; have z1 := Hva.out; simp [onceB, z0, z1]), B00.out⟩
    · by_cases h2 : st = 2
      · subst h2
        clear h0 h1
        go_enter Try.func17, Try.ntmps17
        go_wp2_with (fail)
        refine (isThread_calls _ _).mono ?_
        rintro e w' ⟨rfl, rfl⟩
        cases ht : thrB ow
        · have HT := Lib.hid ht; clear ht
          go_wp2
          go_ret
          exact ⟨ret_bool (by have z0 := HT.out; simp [onceB, z0]), B00.out⟩
        · have HT := Lib.hid ht; clear ht
          go_wp2_with (fail)
          refine (isValue_calls _ _).mono ?_
          rintro e w' ⟨rfl, rfl⟩
          cases hv : valB va
          · have HV := Lib.hid hv; clear hv
            go_wp2
            go_ret
            exact ⟨ret_bool (by have z0 := HT.out; have z1 := HV.out; simp [onceB, z0, z1]), B00.out⟩
          · have HV := Lib.hid hv; clear hv
            by_cases hl : 0 < ws.length
            · have dl := len_ne hl
              have HL := Lib.hid (show ws ≠ [] from fun e => by rw [e] at hl; simp at hl)
              clear hl
              go_wp2
              go_ret
              exact ⟨ret_bool (by have z0 := HT.out; have z1 := HV.out; have z2 := HL.out; simp [onceB, z0, z1, z2]), B00.out⟩
            · have dl := len_eq hl
              have HL := Lib.hid (show ws = [] from List.eq_nil_of_length_eq_zero (by omega))
              clear hl
              go_wp2
              go_ret
              exact ⟨ret_bool (by have z0 := HT.out; have z1 := HV.out; have z2 := HL.out; simp [onceB, z0, z1, z2]), B00.out⟩
      · have e0 : (st == 0) = false := beq_false_of_ne h0
        have e1 : (st == 1) = false := beq_false_of_ne h1
        have e2 : (st == 2) = false := beq_false_of_ne h2
        have e0' : decide (st = 0) = false := decide_eq_false h0
        have e1' : decide (st = 1) = false := decide_eq_false h1
        have e2' : decide (st = 2) = false := decide_eq_false h2
        have H0 := Lib.hid h0; have H1 := Lib.hid h1; have H2 := Lib.hid h2; clear h0 h1 h2
        go_enter Try.func17, Try.ntmps17
        go_wp2
        go_ret
        exact ⟨ret_bool (by have z0 := H0.out; have z1 := H1.out; have z2 := H2.out; simp [onceB, z0, z1, z2]), B00.out⟩
set_option maxHeartbeats 3200000 in
theorem sOnceValid_calls (v : Value) (o : OnceD) (w : World) (h : OnceRow w v o) :
    Calls Try.prog 19 #[v] w fun e w' => e = .returned (.bool (onceB o)) ∧ Below w.heap.size w w' := by
  obtain ⟨st, ow, va, ws⟩ := o
  obtain ⟨a3, p3, rfl, r3⟩ := h
  dsimp only at r3 ⊢
  have HI := Lib.hid r3
  obtain ⟨x1, y1, e, l1, m1, r3⟩ := IRow.look r3
  injection e with e1 e2 e3
  subst e1 e3
  clear r3
  have n1 : ws.length ≤ 9223372036854775807 := by omega
  have X0 := Lib.hid (heap_at w (.cells #[.int .i64 st, .int .i64 ow, .int .i64 va, .slice a3 ws.length p3] 25))
  have B00 := Lib.hid ((Below.refl w.heap.size w).alloc (Nat.le_refl _) (.cells #[.int .i64 st, .int .i64 ow, .int .i64 va, .slice a3 ws.length p3] 25))
  by_cases h0 : st = 0
  · subst h0
    by_cases how : ow = 0
    · have dow : (ow == 0) = true := by simpa using how
      have How := Lib.hid how; clear how
      by_cases hva : va = 0
      · have dva : (va == 0) = true := by simpa using hva
        have Hva := Lib.hid hva; clear hva
        by_cases hl : 0 < ws.length
        · have dl := len_ne hl
          have HL := Lib.hid (show ws ≠ [] from fun e => by rw [e] at hl; simp at hl)
          clear hl
          go_enter Try.func19, Try.ntmps19
          go_wp2
          go_ret
          exact ⟨ret_bool (by have z0 := How.out; have z1 := Hva.out; have z2 := HL.out; simp [onceB, z0, z1, z2]), B00.out⟩
        · have dl := len_eq hl
          have HL := Lib.hid (show ws = [] from List.eq_nil_of_length_eq_zero (by omega))
          clear hl
          go_enter Try.func19, Try.ntmps19
          go_wp2
          go_ret
          exact ⟨ret_bool (by have z0 := How.out; have z1 := Hva.out; have z2 := HL.out; simp [onceB, z0, z1, z2]), B00.out⟩
      · have dva : (va == 0) = false := by simpa using hva
        have Hva := Lib.hid hva; clear hva
        go_enter Try.func19, Try.ntmps19
        go_wp2
        go_ret
        exact ⟨ret_bool (by have z0 := How.out; have z1 := Hva.out; simp [onceB, z0, z1]), B00.out⟩
    · have dow : (ow == 0) = false := by simpa using how
      have How := Lib.hid how; clear how
      go_enter Try.func19, Try.ntmps19
      go_wp2
      go_ret
      exact ⟨ret_bool (by have z0 := How.out; simp [onceB, z0]), B00.out⟩
  · by_cases h1 : st = 1
    · subst h1
      clear h0
      by_cases hva : va = 0
      · have dva : (va == 0) = true := by simpa using hva
        have Hva := Lib.hid hva; clear hva
        go_enter Try.func19, Try.ntmps19
        go_wp2_with (fail)
        refine (l1Thread_calls _ _).mono ?_
        rintro e w' ⟨rfl, rfl⟩
        cases ht : thrB ow
        · have HT := Lib.hid ht; clear ht
          go_wp2
          go_ret
          exact ⟨ret_bool (by have z0 := HT.out; simp [onceB, z0]), B00.out⟩
        · have HT := Lib.hid ht; clear ht
          go_wp2_with (fail)
          refine (l2Waits_calls _ ws _ (Row.below HI.out B00.out)).mono ?_
          rintro e w1 ⟨rfl, hb⟩
          have B1 := Lib.hid (B00.out.trans (hb.mono (by simp only [szA]; omega))); have X1 := Lib.hid (below_at hb X0.out)
          clear hb
          obtain ⟨c0, c1, c2, c3, f0, f1, f2, f3⟩ := box4 X1.out; have lx1 := heap_lt X1.out
          cases hd : distB ws
          · have HD := Lib.hid hd; clear hd
            go_wp2
            go_ret
            exact ⟨ret_bool (by have z0 := HT.out; have z1 := Hva.out; have z2 := HD.out; simp [onceB, z0, z1, z2]), B1.out⟩
          · have HD := Lib.hid hd; clear hd
            by_cases hin : ow ∈ ws
            · have hp := place_in hin
              have HN := Lib.hid hin; clear hin
              obtain ⟨p, hpe⟩ : ∃ p, place ow ws = p := ⟨_, rfl⟩
              rw [hpe] at hp
              have HPE := Lib.hid hpe; clear hpe
              have dp : decide (p < 0) = false := by simp; omega
              go_wp2_with (fail)
              refine (l2At_calls _ ws ow _ (Row.below HI.out B1.out)).mono ?_
              rintro e w2 ⟨rfl, rfl⟩
              rw [HPE.out]
              go_wp2
              go_ret
              exact ⟨ret_bool (by have z0 := HT.out; have z1 := Hva.out; have z2 := HD.out; have z3 := HN.out; simp [onceB, z0, z1, z2, z3]), B1.out⟩
            · have HPE := Lib.hid (place_out hin)
              have HN := Lib.hid hin; clear hin
              go_wp2_with (fail)
              refine (l2At_calls _ ws ow _ (Row.below HI.out B1.out)).mono ?_
              rintro e w2 ⟨rfl, rfl⟩
              rw [HPE.out]
              go_wp2
              go_ret
              exact ⟨ret_bool (by have z0 := HT.out; have z1 := Hva.out; have z2 := HD.out; have z3 := HN.out; simp [onceB, z0, z1, z2, z3]), B1.out⟩
      · have dva : (va == 0) = false := by simpa using hva
        have Hva := Lib.hid hva; clear hva
        go_enter Try.func19, Try.ntmps19
        go_wp2_with (fail)
        refine (l1Thread_calls _ _).mono ?_
        rintro e w' ⟨rfl, rfl⟩
        cases ht : thrB ow
        · have HT := Lib.hid ht; clear ht
          go_wp2
          go_ret
          exact ⟨ret_bool (by have z0 := HT.out; simp [onceB, z0]), B00.out⟩
        · have HT := Lib.hid ht; clear ht
          go_wp2
          go_ret
          exact ⟨ret_bool (by have z0 := HT.out; have z1 := Hva.out; simp [onceB, z0, z1]), B00.out⟩
    · by_cases h2 : st = 2
      · subst h2
        clear h0 h1
        go_enter Try.func19, Try.ntmps19
        go_wp2_with (fail)
        refine (l1Thread_calls _ _).mono ?_
        rintro e w' ⟨rfl, rfl⟩
        cases ht : thrB ow
        · have HT := Lib.hid ht; clear ht
          go_wp2
          go_ret
          exact ⟨ret_bool (by have z0 := HT.out; simp [onceB, z0]), B00.out⟩
        · have HT := Lib.hid ht; clear ht
          go_wp2_with (fail)
          refine (l2Value_calls _ _).mono ?_
          rintro e w' ⟨rfl, rfl⟩
          cases hv : valB va
          · have HV := Lib.hid hv; clear hv
            go_wp2
            go_ret
            exact ⟨ret_bool (by have z0 := HT.out; have z1 := HV.out; simp [onceB, z0, z1]), B00.out⟩
          · have HV := Lib.hid hv; clear hv
            by_cases hl : 0 < ws.length
            · have dl := len_ne hl
              have HL := Lib.hid (show ws ≠ [] from fun e => by rw [e] at hl; simp at hl)
              clear hl
              go_wp2
              go_ret
              exact ⟨ret_bool (by have z0 := HT.out; have z1 := HV.out; have z2 := HL.out; simp [onceB, z0, z1, z2]), B00.out⟩
            · have dl := len_eq hl
              have HL := Lib.hid (show ws = [] from List.eq_nil_of_length_eq_zero (by omega))
              clear hl
              go_wp2
              go_ret
              exact ⟨ret_bool (by have z0 := HT.out; have z1 := HV.out; have z2 := HL.out; simp [onceB, z0, z1, z2]), B00.out⟩
      · have e0 : (st == 0) = false := beq_false_of_ne h0
        have e1 : (st == 1) = false := beq_false_of_ne h1
        have e2 : (st == 2) = false := beq_false_of_ne h2
        have e0' : decide (st = 0) = false := decide_eq_false h0
        have e1' : decide (st = 1) = false := decide_eq_false h1
        have e2' : decide (st = 2) = false := decide_eq_false h2
        have H0 := Lib.hid h0; have H1 := Lib.hid h1; have H2 := Lib.hid h2; clear h0 h1 h2
        go_enter Try.func19, Try.ntmps19
        go_wp2
        go_ret
        exact ⟨ret_bool (by have z0 := H0.out; have z1 := H1.out; have z2 := H2.out; simp [onceB, z0, z1, z2]), B00.out⟩
end Go.Proofs.Ytmmkbiljjhigfaa
