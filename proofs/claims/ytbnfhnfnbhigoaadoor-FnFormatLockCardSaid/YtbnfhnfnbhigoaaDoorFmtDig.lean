/- A thread's number in decimal, of both. -/
import Derived.Test.YtbnfhnfnbhigoaaDoorLockPlain
namespace Go.Proofs.YtbnfhnfnbhigoaaDoor
open Go.RowKit
set_option linter.unusedSimpArgs false
set_option linter.unusedVariables false
def dig (t : Int) : ByteArray := if t = 0 then ⟨#[48]⟩ else if t = 1 then ⟨#[49]⟩ else if t = 2 then ⟨#[50]⟩ else if t = 3 then ⟨#[51]⟩ else if t = 4 then ⟨#[52]⟩ else ⟨#[53]⟩
theorem thr_six {t : Int} (h : Thr t) : t = 0 ∨ t = 1 ∨ t = 2 ∨ t = 3 ∨ t = 4 ∨ t = 5 := by unfold Thr at h; omega
theorem small_calls (t : Int) (w : World) (h : Thr t) :
    Calls Tryd.prog 59 #[.int .i64 t] w fun e w' => e = .returned (.string (dig t)) ∧ w = w' := by
  rcases thr_six h with rfl | rfl | rfl | rfl | rfl | rfl
  all_goals
    go_enter Tryd.func59, Tryd.ntmps59
    go_wp2
    go_ret
    exact ⟨rfl, rfl⟩
theorem FormatInt_calls (t : Int) (w : World) (h : Thr t) :
    Calls Tryd.prog 55 #[.int .i64 t, .int .i64 10] w fun e w' => e = .returned (.string (dig t)) ∧ w = w' := by
  have h' := h
  unfold Thr at h'
  have d1 : decide ((0 : Int) ≤ t) = true := decide_eq_true h'.1
  have d2 : decide (t < 100) = true := decide_eq_true (by omega)
  obtain ⟨h1, h2⟩ := h'
  go_enter Tryd.func55, Tryd.ntmps55
  go_wp2_with (fail)
  refine (small_calls t _ h).mono ?_
  rintro e w' ⟨rfl, rfl⟩
  go_wp2
  go_ret
  exact ⟨rfl, rfl⟩
theorem Itoa_calls (t : Int) (w : World) (h : Thr t) :
    Calls Tryd.prog 26 #[.int .i64 t] w fun e w' => e = .returned (.string (dig t)) ∧ w = w' := by
  go_enter Tryd.func26, Tryd.ntmps26
  go_wp2_with (fail)
  have hi : Calls Tryd.prog 45 #[.int .i64 t] w fun e w' => e = .returned (.string (dig t)) ∧ w = w' := by
    go_enter Tryd.func45, Tryd.ntmps45
    go_wp2_with (fail)
    refine (FormatInt_calls t _ h).mono ?_
    rintro e w' ⟨rfl, rfl⟩
    go_wp2
    go_ret
    exact ⟨rfl, rfl⟩
  refine hi.mono ?_
  rintro e w' ⟨rfl, rfl⟩
  go_wp2
  go_ret
  exact ⟨rfl, rfl⟩
theorem conv_one (w : World) (x : Int) :
    (convert 34 9 (.slice (some ⟨w.heap.size, 0, none⟩) 1 1)).run Tryd.prog (w.alloc (.cells #[.int .u8 x] 5)) = .ok (.string (strOfNums [x])) (w.alloc (.cells #[.int .u8 x] 5)) := by
  refine run_convert_bytes_arg _ 34 5 (by with_unfolding_all rfl) (by with_unfolding_all rfl) _ 0 1 1 [x] rfl ?_ _ (by with_unfolding_all rfl)
  intro i hi
  obtain rfl : i = 0 := by omega
  rw [World.cell?_alloc_new]; rfl
set_option maxRecDepth 100000 in
theorem l13Dec_calls (t : Int) (w : World) (h : Thr t) :
    Calls Tryd.prog 22 #[.int .i64 t] w fun e w' => e = .returned (.string (dig t)) ∧ Below w.heap.size w w' := by
  have h' := h
  unfold Thr at h'
  have d1 : decide (t < -9223372036854775807) = false := decide_eq_false (by omega)
  have d2 : decide (t < 0) = false := decide_eq_false (by omega)
  have d3 : decide (9 < t) = false := decide_eq_false (by omega)
  obtain ⟨h1, h2⟩ := h'
  go_enter Tryd.func22, Tryd.ntmps22
  go_wp2
  go_loopw [0, 3] (fun n s wr => n = .int .i64 t ∧ s = .string ⟨#[]⟩ ∧ wr = w) (fun _ _ _ => 0)
  case atStart => exact ⟨rfl, rfl, rfl⟩
  case round =>
    obtain ⟨rfl, rfl, rfl⟩ := hrel
    rcases thr_six h with rfl | rfl | rfl | rfl | rfl | rfl
    all_goals
      have c0 := conv_one wr 48
      have c1 := conv_one wr 49
      have c2 := conv_one wr 50
      have c3 := conv_one wr 51
      have c4 := conv_one wr 52
      have c5 := conv_one wr 53
      go_wp2
      go_ret
      exact ⟨rfl, (Below.refl _ _).alloc (Nat.le_refl _) _⟩
end Go.Proofs.YtbnfhnfnbhigoaaDoor
