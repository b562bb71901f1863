/- HoldsLock of both: what they return. -/
import Derived.Test.YtbnfhnfnbhigoaaDoorLockValid
import Derived.Test.YtbnfhnfnbhigoaaDoorLockValidS
namespace Go.Proofs.YtbnfhnfnbhigoaaDoor
open Go.RowKit
set_option linter.unusedSimpArgs false
set_option linter.unusedVariables false
def hasB (l : LockD) (t : Int) : Bool := decide (l.writer = t) || decide (t ∈ l.readers)
def holdsB (l : LockD) (t : Int) : Bool := lockB l && thrB t && hasB l t
theorem l4Holds_calls (v : Value) (l : LockD) (t : Int) (w : World) (h : LockRow w v l) :
    Calls Tryd.prog 58 #[v, .int .i64 t] w fun e w' => e = .returned (.bool (hasB l t)) ∧ Below w.heap.size w w' := by
  obtain ⟨rd, ww, q⟩ := l
  obtain ⟨a0, p0, a2, p2, rfl, r0, r2⟩ := h
  dsimp only at r0 r2 ⊢
  have HI := Lib.hid r0; clear r0 r2
  have B00 := Lib.hid ((Below.refl w.heap.size w).alloc (Nat.le_refl _) (.cells #[.slice a0 rd.length p0, .int .i64 ww, .slice a2 q.length p2] 30))
  by_cases hw : ww = t
  · have d : (ww == t) = true := by simpa using hw
    have HW := Lib.hid hw; clear hw
    go_enter Tryd.func58, Tryd.ntmps58
    go_wp2
    go_ret
    exact ⟨ret_bool (by simp [hasB, HW.out]), B00.out⟩
  · have d : (ww == t) = false := by simpa using hw
    have HW := Lib.hid hw; clear hw
    by_cases hin : t ∈ rd
    · have hp := place_in hin
      have HN := Lib.hid hin; clear hin
      obtain ⟨p, hpe⟩ : ∃ p, place t rd = p := ⟨_, rfl⟩
      rw [hpe] at hp
      have HPE := Lib.hid hpe; clear hpe
      have dp : decide ((0 : Int) ≤ p) = true := decide_eq_true hp
      go_enter Tryd.func58, Tryd.ntmps58
      go_wp2_with (fail)
      refine (l2At_calls _ rd t _ (Row.below HI.out B00.out)).mono ?_
      rintro e w1 ⟨rfl, rfl⟩
      rw [HPE.out]
      go_wp2
      go_ret
      exact ⟨ret_bool (by have h := HN.out; simp [hasB, h]), B00.out⟩
    · have HPE := Lib.hid (place_out hin)
      have HN := Lib.hid hin; clear hin
      go_enter Tryd.func58, Tryd.ntmps58
      go_wp2_with (fail)
      refine (l2At_calls _ rd t _ (Row.below HI.out B00.out)).mono ?_
      rintro e w1 ⟨rfl, rfl⟩
      rw [HPE.out]
      go_wp2
      go_ret
      exact ⟨ret_bool (by have h := HN.out; have h2 := HW.out; simp [hasB, h, h2]), B00.out⟩
set_option maxHeartbeats 1600000 in
theorem sHoldsLock_calls (v : Value) (l : LockD) (t : Int) (w : World) (h : LockRow w v l) (hn : l.readers.length + l.q.length ≤ 1048576) :
    Calls Tryd.prog 56 #[v, .int .i64 t] w fun e w' => e = .returned (.bool (holdsB l t)) ∧ Below w.heap.size w w' := by
  have HR := Lib.hid h
  obtain ⟨a0, p0, a2, p2, rfl, r0, r2⟩ := h
  clear r0 r2
  have X0 := Lib.hid (heap_at w (.cells #[.slice a0 l.readers.length p0, .int .i64 l.writer, .slice a2 l.q.length p2] 30))
  have B00 := Lib.hid ((Below.refl w.heap.size w).alloc (Nat.le_refl _) (.cells #[.slice a0 l.readers.length p0, .int .i64 l.writer, .slice a2 l.q.length p2] 30))
  go_enter Tryd.func56, Tryd.ntmps56
  go_wp2_with (fail)
  refine (sLockValid_calls _ l _ (LockRow.below HR.out B00.out) hn).mono ?_
  rintro e w1 ⟨rfl, hb⟩
  have B1 := Lib.hid (B00.out.trans (hb.mono (by simp only [szA]; omega))); have X1 := Lib.hid (below_at hb X0.out)
  clear hb
  obtain ⟨c0, c1, c2, f0, f1, f2⟩ := box3 X1.out; have lx1 := heap_lt X1.out
  cases hv : lockB l
  · have HV := Lib.hid hv; clear hv
    go_wp2
    go_ret
    exact ⟨ret_bool (by simp [holdsB, HV.out]), B1.out⟩
  · have HV := Lib.hid hv; clear hv
    go_wp2_with (fail)
    refine (l1Thread_calls t _).mono ?_
    rintro e w2 ⟨rfl, rfl⟩
    cases ht : thrB t
    · have HT := Lib.hid ht; clear ht
      go_wp2
      go_ret
      exact ⟨ret_bool (by simp [holdsB, HT.out]), B1.out⟩
    · have HT := Lib.hid ht; clear ht
      go_wp2_with (fail)
      refine (l4Holds_calls _ l t _ (LockRow.below HR.out B1.out)).mono ?_
      rintro e w3 ⟨rfl, hb⟩
      have B3 := Lib.hid (B1.out.trans (hb.mono (by omega)))
      clear hb
      go_wp2
      go_ret
      exact ⟨ret_bool (by simp [holdsB, HV.out, HT.out]), B3.out⟩
end Go.Proofs.YtbnfhnfnbhigoaaDoor
