/- Values, places in a list of ints, lists of different threads (spec.l2Waits), copies of lists: what they return. -/
import Derived.Test.YtchlacepeckeaaaDoorSemPlain
import Derived.Test.YtchlacepeckeaaaDoorInfo
import Derived.Test.YtchlacepeckeaaaDoorSpan
import Derived.Deep.RegionHeld3
import Derived.Deep.DrawnRows
namespace Go.Proofs.YtchlacepeckeaaaDoor
open Go.RowKit
set_option linter.unusedSimpArgs false
set_option linter.unusedVariables false
theorem Row.pre {α : Type} {k n c : Nat} {enc : α → List Value} {w : World} {a : Option Addr} {xs : List α} (h : Row k enc w (.slice a xs.length c) xs) (hn : n ≤ xs.length) : Row k enc w (.slice a n c) (xs.take n) := by
  obtain ⟨a', cap, e, h1, h2, h3, h4⟩ := h
  simp only [Value.slice.injEq] at e
  obtain ⟨rfl, _, rfl⟩ := e
  have hl : (xs.take n).length = n := by simp; omega
  refine ⟨a, c, by rw [hl], by omega, h2, h3, fun hp => ?_⟩
  obtain ⟨b, off, e2, hlt, hc⟩ := h4 (by omega)
  refine ⟨b, off, e2, hlt, fun i x hx => hc i x ?_⟩
  rw [List.getElem?_take] at hx
  split at hx
  · exact hx
  · cases hx
theorem nodup_six : ∀ (n : Nat) (xs : List Int), xs.Nodup → (∀ x ∈ xs, 0 ≤ x ∧ x < (n : Int)) → xs.length ≤ n
  | 0, xs, _, h => by
    cases xs with
    | nil => simp
    | cons x r => have := h x (by simp); omega
  | n + 1, xs, hn, h => by
    have hl : (xs.erase (n : Int)).length ≤ n := nodup_six n _ (hn.erase _) fun x hx => by
      have h1 := (List.Nodup.mem_erase_iff hn).1 hx
      have h2 := h x h1.2
      have h3 := h1.1
      omega
    rw [List.length_erase] at hl
    split at hl <;> omega
theorem Distinct.six {xs : List Int} (h : Distinct xs) : xs.length ≤ 6 := nodup_six 6 xs h.2 fun x hx => by
  have := h.1 x hx; unfold Thr at this; omega

def Val (x : Int) : Prop := 0 ≤ x ∧ x ≤ 99
instance (t : Int) : Decidable (Val t) := by unfold Val; infer_instance
def valB (x : Int) : Bool := decide (0 ≤ x) && decide (x ≤ 99)
theorem valB_true {t : Int} : valB t = true ↔ Val t := by simp [valB, Val]
theorem valB_false {t : Int} : valB t = false ↔ ¬ Val t := by rw [← valB_true]; simp
theorem l2Value_calls (t : Int) (w : World) :
    Calls Tryd.prog 40 #[.int .i64 t] w fun e w' => e = .returned (.bool (valB t)) ∧ w = w' := by
  by_cases h : 0 ≤ t
  all_goals
    go_enter Tryd.func40, Tryd.ntmps40
    go_wp2
    all_goals go_ret
    all_goals exact ⟨ret_bool (by first | (simp [valB, h]; done) | (simp [valB]; omega)), rfl⟩

/-- The place of a number in a list, or -1. -/
def placeFrom (t : Int) : Nat → List Int → Int
  | _, [] => -1
  | n, x :: r => if x = t then n else placeFrom t (n + 1) r
def place (t : Int) (q : List Int) : Int := placeFrom t 0 q
theorem placeFrom_no {t : Int} : ∀ {q : List Int} (n : Nat), (∀ x ∈ q, x ≠ t) → placeFrom t n q = -1
  | [], _, _ => rfl
  | x :: r, n, h => by
    simp only [placeFrom, if_neg (h x (by simp))]
    exact placeFrom_no (n + 1) fun y hy => h y (by simp [hy])
theorem placeFrom_at {t : Int} {x : Int} : ∀ {q : List Int} (n k : Nat), q[k]? = some x → (∀ y ∈ q.take k, y ≠ t) → x = t → placeFrom t n q = ((n + k : Nat) : Int)
  | [], _, _, h, _, _ => by simp at h
  | y :: r, n, 0, h, _, e => by
    simp only [List.getElem?_cons_zero, Option.some.injEq] at h
    subst h
    simp [placeFrom, e]
  | y :: r, n, k + 1, h, hn, e => by
    simp only [List.getElem?_cons_succ] at h
    simp only [placeFrom, if_neg (hn y (by simp))]
    rw [placeFrom_at (n + 1) k h (fun z hz => hn z (by simp [hz])) e]
    congr 1; omega
theorem place_no {t : Int} {q : List Int} (h : ∀ x ∈ q, x ≠ t) : place t q = -1 := placeFrom_no 0 h
theorem place_at {t : Int} {q : List Int} {k : Nat} {x : Int} (h : q[k]? = some x) (hn : ∀ y ∈ q.take k, y ≠ t) (e : x = t) : place t q = (k : Int) := by
  rw [place, placeFrom_at 0 k h hn e, Nat.zero_add]
theorem place_in {t : Int} {q : List Int} (h : t ∈ q) : 0 ≤ place t q := by
  have : ∀ (q : List Int) (n : Nat), t ∈ q → 0 ≤ placeFrom t n q := by
    intro q
    induction q with
    | nil => intro n h; cases h
    | cons y r ih =>
      intro n h
      unfold placeFrom
      split
      · omega
      · rcases List.mem_cons.1 h with h | h
        · subst h; contradiction
        · exact ih _ h
  exact this q 0 h
theorem place_out {t : Int} {q : List Int} (h : t ∉ q) : place t q = -1 := place_no fun x hx e => h (e ▸ hx)
theorem place_lt {t : Int} {q : List Int} : place t q < q.length := by
  have : ∀ (q : List Int) (n : Nat), placeFrom t n q < ((n + q.length : Nat) : Int) := by
    intro q
    induction q with
    | nil => intro n; simp only [placeFrom]; omega
    | cons y r ih =>
      intro n
      unfold placeFrom
      split
      · simp only [List.length_cons]; omega
      · have := ih (n + 1); simp only [List.length_cons]; omega
  have := this q 0
  simpa [place] using this
end Go.Proofs.YtchlacepeckeaaaDoor
