/- Plain mathematics of semaphores: no program in sight. -/
import Derived.Test.YtchlacepeckeaaaDoorThreads
namespace Go.Proofs.YtchlacepeckeaaaDoor

structure SemD where
  free : Int
  limit : Int
  q : List (Int × Int)
  deriving DecidableEq

def SemD.zero : SemD := ⟨0, 0, []⟩

def HeadOver (f : Int) : List (Int × Int) → Prop
  | [] => True
  | x :: _ => f < x.2
instance (f : Int) (q : List (Int × Int)) : Decidable (HeadOver f q) := by cases q <;> unfold HeadOver <;> infer_instance

def SemHead (f l : Int) (n : Nat) : Prop := 1 ≤ l ∧ l ≤ 9 ∧ 0 ≤ f ∧ f ≤ l ∧ n ≤ 6
instance (f l : Int) (n : Nat) : Decidable (SemHead f l n) := by unfold SemHead; infer_instance

def SemOk (s : SemD) : Prop := SemHead s.free s.limit s.q.length ∧ (∀ x ∈ s.q, 1 ≤ x.2 ∧ x.2 ≤ s.limit) ∧ Distinct (s.q.map (·.1)) ∧ HeadOver s.free s.q
instance (s : SemD) : Decidable (SemOk s) := by unfold SemOk; infer_instance
def semB (s : SemD) : Bool := decide (SemOk s)
theorem semB_true {s : SemD} : semB s = true ↔ SemOk s := by simp [semB]
theorem semB_false {s : SemD} : semB s = false ↔ ¬ SemOk s := by simp [semB]

theorem semB_head {s : SemD} (h : ¬ SemHead s.free s.limit s.q.length) : semB s = false := semB_false.2 fun k => h k.1
theorem semB_cnt {s : SemD} {k : Nat} {x : Int × Int} (hx : s.q[k]? = some x) (h : ¬ (1 ≤ x.2 ∧ x.2 ≤ s.limit)) : semB s = false := semB_false.2 fun hk => h (hk.2.1 x (get_mem hx))
theorem semB_dist {s : SemD} (h : distB (s.q.map (·.1)) = false) : semB s = false := semB_false.2 fun hk => by
  simp only [distB, decide_eq_false_iff_not] at h; exact h hk.2.2.1
theorem semB_over {s : SemD} {x : Int × Int} (hx : s.q[0]? = some x) (h : ¬ s.free < x.2) : semB s = false := semB_false.2 fun hk => by
  have := hk.2.2.2
  cases hq : s.q with
  | nil => rw [hq] at hx; cases hx
  | cons y r => rw [hq] at hx this; cases hx; exact h this
theorem semB_yes {s : SemD} (h1 : SemHead s.free s.limit s.q.length) (h2 : ∀ x ∈ s.q, 1 ≤ x.2 ∧ x.2 ≤ s.limit) (h3 : distB (s.q.map (·.1)) = true) (h4 : ∀ x, s.q[0]? = some x → s.free < x.2) : semB s = true := by
  rw [semB_true]
  refine ⟨h1, h2, by simpa [distB] using h3, ?_⟩
  cases hq : s.q with
  | nil => trivial
  | cons y r => exact h4 y (by rw [hq]; rfl)

/-- The place of a thread among waiters, or -1. -/
def findFrom (t : Int) : Nat → List (Int × Int) → Int
  | _, [] => -1
  | n, x :: r => if x.1 = t then n else findFrom t (n + 1) r
def findW (t : Int) (q : List (Int × Int)) : Int := findFrom t 0 q
theorem findFrom_no {t : Int} : ∀ {q : List (Int × Int)} (n : Nat), (∀ x ∈ q, x.1 ≠ t) → findFrom t n q = -1
  | [], _, _ => rfl
  | x :: r, n, h => by
    simp only [findFrom, if_neg (h x (by simp))]
    exact findFrom_no (n + 1) fun y hy => h y (by simp [hy])
theorem findFrom_at {t : Int} {x : Int × Int} : ∀ {q : List (Int × Int)} (n k : Nat), q[k]? = some x → (∀ y ∈ q.take k, y.1 ≠ t) → x.1 = t → findFrom t n q = ((n + k : Nat) : Int)
  | [], _, _, h, _, _ => by simp at h
  | y :: r, n, 0, h, _, e => by
    simp only [List.getElem?_cons_zero, Option.some.injEq] at h
    subst h
    simp [findFrom, e]
  | y :: r, n, k + 1, h, hn, e => by
    simp only [List.getElem?_cons_succ] at h
    simp only [findFrom, if_neg (hn y (by simp))]
    rw [findFrom_at (n + 1) k h (fun z hz => hn z (by simp [hz])) e]
    congr 1; omega
theorem findW_no {t : Int} {q : List (Int × Int)} (h : ∀ x ∈ q, x.1 ≠ t) : findW t q = -1 := findFrom_no 0 h
theorem findW_at {t : Int} {q : List (Int × Int)} {k : Nat} {x : Int × Int} (h : q[k]? = some x) (hn : ∀ y ∈ q.take k, y.1 ≠ t) (e : x.1 = t) : findW t q = (k : Int) := by
  rw [findW, findFrom_at 0 k h hn e, Nat.zero_add]
theorem all_snoc {α : Type} {P : α → Prop} {q : List α} {k : Nat} {x : α} (hx : q[k]? = some x) (h : ∀ y ∈ q.take k, P y) (hp : P x) : ∀ y ∈ q.take (k + 1), P y := by
  rw [take_snoc hx]
  intro z hz
  rcases List.mem_append.1 hz with hz | hz
  · exact h z hz
  · simp only [List.mem_singleton] at hz; subst hz; exact hp
theorem findW_neg {t : Int} {q : List (Int × Int)} : findW t q < 0 ↔ t ∉ q.map (·.1) := by
  constructor
  · intro h hm
    obtain ⟨x, hx, e⟩ := List.mem_map.1 hm
    have : ∀ (q : List (Int × Int)) (n : Nat), x ∈ q → 0 ≤ findFrom t n q := by
      intro q
      induction q with
      | nil => intro n h; cases h
      | cons y r ih =>
        intro n h
        unfold findFrom
        split
        · omega
        · rcases List.mem_cons.1 h with h | h
          · subst h; contradiction
          · exact ih _ h
    have := this q 0 hx
    unfold findW at h; omega
  · intro h
    rw [findW_no fun x hx e => h (List.mem_map.2 ⟨x, hx, e⟩)]; omega

def newSem (l : Int) : SemD := if 1 ≤ l ∧ l ≤ 9 then ⟨l, l, []⟩ else SemD.zero
def newSemB (l : Int) : Bool := decide (1 ≤ l ∧ l ≤ 9)

/-- Permits are handed on as long as there are enough: what is free, who still waits, who got some. -/
def serve (f : Int) : List (Int × Int) → Int × List (Int × Int) × List Int
  | [] => (f, [], [])
  | x :: r => if x.2 ≤ f then ((serve (f - x.2) r).1, (serve (f - x.2) r).2.1, x.1 :: (serve (f - x.2) r).2.2) else (f, x :: r, [])
end Go.Proofs.YtchlacepeckeaaaDoor
