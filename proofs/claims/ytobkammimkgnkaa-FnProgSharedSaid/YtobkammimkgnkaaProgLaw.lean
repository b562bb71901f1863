/- What the laws on programs say: a program with one thread less, one more, one thing more (made by gen_proglaws.py). -/
import Derived.Test.YtobkammimkgnkaaSizeOf
namespace Go.Proofs.Ytobkammimkgnkaa
open Go.RowKit
set_option linter.unusedSimpArgs false
set_option linter.unusedVariables false
theorem row_rest9 {α : Type} {k : Nat} {enc : α → List Value} {w : World} {b off n cap : Nat} {q : List α} (h : Row k enc w (.slice (some ⟨b, off, none⟩) n cap) q) (hq : 0 < q.length) :
    Row k enc w (.slice (if cap = 1 then some ⟨b, off, none⟩ else some ⟨b, off + k, none⟩) (q.length - 1) (cap - 1)) (q.drop 1) := by
  cases q with
  | nil => simp at hq
  | cons x r => exact Row.tail h
theorem Inner.tail9 {w : World} {us : List SV} {ts : List (List OpT)} (h : Inner w us ts) : Inner w (us.drop 1) (ts.drop 1) :=
  ⟨by simp [h.1], fun i u t hu ht => h.2 (1 + i) u t (by rwa [List.getElem?_drop] at hu) (by rwa [List.getElem?_drop] at ht)⟩
theorem Inner.snoc9 {w : World} {us : List SV} {ts : List (List OpT)} {a : Option Addr} {c : Nat} {t : List OpT} (h : Inner w us ts) (ht : TRow w (.slice a t.length c) t) : Inner w (us ++ [(a, t.length, c)]) (ts ++ [t]) := by
  refine ⟨by simp [h.1], fun i u x hu hx => ?_⟩
  rcases Nat.lt_or_ge i us.length with hi | hi
  · rw [List.getElem?_append_left hi] at hu
    rw [List.getElem?_append_left (by rw [← h.1]; exact hi)] at hx
    exact h.2 i u x hu hx
  · rw [List.getElem?_append_right hi] at hu
    rw [List.getElem?_append_right (by rw [← h.1]; exact hi)] at hx
    have e : i - us.length = 0 := by have := get_lt hu; simp at this; omega
    rw [e] at hu
    rw [← h.1, e] at hx
    simp only [List.getElem?_cons_zero, Option.some.injEq] at hu hx
    subst hu hx
    exact ⟨rfl, ht⟩
theorem TTRow.rest9 {w : World} {b o n p : Nat} {ts : List (List OpT)} (h : TTRow w (.slice (some ⟨b, o, none⟩) n p) ts) (h0 : 0 < ts.length) : TTRow w (.slice (if p = 1 then some ⟨b, o, none⟩ else some ⟨b, o + 1, none⟩) (ts.length - 1) (p - 1)) (ts.drop 1) := by
  obtain ⟨us, h1, h2⟩ := h
  exact ⟨us.drop 1, by rw [← h2.1]; exact row_rest9 h1 (by rw [h2.1]; exact h0), h2.tail9⟩
theorem TTRow.cap9 {w : World} {a : Option Addr} {n p : Nat} {ts : List (List OpT)} (h : TTRow w (.slice a n p) ts) : n = ts.length ∧ ts.length ≤ p ∧ p ≤ 9223372036854775807 := by
  obtain ⟨a', c', e, l, m, _⟩ := h.look
  injection e with _ e2 e3; omega
theorem ProgRow.with4 {w : World} {v0 v1 v2 v3 v4 : Value} {c : ProgD} {A : Option Addr} {P n : Nat} {ts : List (List OpT)} (h : ProgRow w (.agg #[v0, v1, v2, v3, v4]) c) (h4 : TTRow w (.slice A n P) ts) : ProgRow w (.agg #[v0, v1, v2, v3, .slice A n P]) ⟨c.sems, c.groups, c.barriers, c.rooms, ts⟩ := by
  obtain ⟨a0, p0, a1, p1, a2, p2, a3, p3, a4, p4, e, r0, r1, r2, r3, r4⟩ := h
  cases e
  obtain rfl := h4.cap9.1
  exact ⟨_, _, _, _, _, _, _, _, _, _, rfl, r0, r1, r2, r3, h4⟩
theorem ProgRow.with0 {w : World} {v0 v1 v2 v3 v4 : Value} {c : ProgD} {A : Option Addr} {P : Nat} {xs : List Int} (h : ProgRow w (.agg #[v0, v1, v2, v3, v4]) c) (h0 : IRow w (.slice A xs.length P) xs) : ProgRow w (.agg #[.slice A xs.length P, v1, v2, v3, v4]) ⟨xs, c.groups, c.barriers, c.rooms, c.threads⟩ := by
  obtain ⟨a0, p0, a1, p1, a2, p2, a3, p3, a4, p4, e, r0, r1, r2, r3, r4⟩ := h
  cases e
  exact ⟨_, _, _, _, _, _, _, _, _, _, rfl, h0, r1, r2, r3, r4⟩
theorem progOk_rest {c : ProgD} {ts : List (List OpT)} (h : ProgOk c) (h2 : 2 ≤ c.threads.length) (hts : c.threads.drop 1 = ts) : ProgOk ⟨c.sems, c.groups, c.barriers, c.rooms, ts⟩ := by
  obtain ⟨g0, g1, g2, g3, g4, g5, g6⟩ := h
  refine ⟨g0, g1, g2, g3, ?_, ?_, fun t ht => ?_⟩
  · show 1 ≤ ts.length; rw [← hts]; simp; omega
  · show ts.length ≤ 4; rw [← hts]; simp; omega
  · exact g6 t (List.mem_of_mem_drop (by rw [hts]; exact ht))
theorem ttSum_rest {ts zs : List (List OpT)} {t : List OpT} (ht : ts[0]? = some t) (hz : ts.drop 1 = zs) : ttSum ts = t.length + ttSum zs := by
  cases ts with
  | nil => cases ht
  | cons x r => simp at ht hz; subst ht hz; simp [ttSum]
theorem size_rest {c : ProgD} {ts : List (List OpT)} {t : List OpT} (h : ProgOk c) (h2 : 2 ≤ c.threads.length) (ht : c.threads[0]? = some t) (hts : c.threads.drop 1 = ts) :
    ∃ n m : Int, sizeB c = n ∧ sizeB ⟨c.sems, c.groups, c.barriers, c.rooms, ts⟩ = m ∧ IntKind.i64.wrap (n - (t.length : Int)) = m := by
  refine ⟨_, _, rfl, rfl, ?_⟩
  have h9 := ttSum_small h c.threads.length
  rw [take_all (Nat.le_refl _)] at h9
  have h8 := ttSum_rest ht hts
  rw [sizeB_yes (progB_yes h), sizeB_yes (progB_yes (progOk_rest h h2 hts))]
  show IntKind.i64.wrap ((ttSum c.threads : Int) - (t.length : Int)) = (ttSum ts : Int)
  rw [IntWalk.i64_in _ (by omega)]; omega
theorem progOk_more {c : ProgD} {t : List OpT} (h : ProgOk c) (h4 : ¬ c.threads.length = 4) (ht : ThrOk c t) : ProgOk ⟨c.sems, c.groups, c.barriers, c.rooms, c.threads ++ [t]⟩ := by
  obtain ⟨g0, g1, g2, g3, g4, g5, g6⟩ := h
  refine ⟨g0, g1, g2, g3, ?_, ?_, fun x hx => ?_⟩
  · show 1 ≤ (c.threads ++ [t]).length; simp
  · show (c.threads ++ [t]).length ≤ 4; simp; omega
  · rcases List.mem_append.1 hx with hx | hx
    · exact g6 x hx
    · rw [List.mem_singleton.1 hx]; exact ht
def two9 : List OpT := [(1, 0, 1), (1, 0, 2)]
theorem two9_ok (c : ProgD) : ThrOk c two9 := by
  refine ⟨by decide, fun x hx => ?_⟩
  unfold two9 at hx
  simp only [List.mem_cons, List.not_mem_nil, or_false] at hx
  rcases hx with rfl | rfl
  · exact .inl ⟨rfl, rfl, by unfold Val; decide⟩
  · exact .inl ⟨rfl, rfl, by unfold Val; decide⟩
theorem size_more {c : ProgD} {z : List (List OpT)} {n : Int} (h : ProgOk c) (h4 : ¬ c.threads.length = 4) (hz : c.threads ++ [two9] = z) (hn : sizeB c = n) :
    ∃ m : Int, sizeB ⟨c.sems, c.groups, c.barriers, c.rooms, z⟩ = m ∧ IntKind.i64.wrap (n + 2) = m ∧ progB ⟨c.sems, c.groups, c.barriers, c.rooms, z⟩ = true := by
  have hp := progOk_more h h4 (two9_ok c)
  rw [hz] at hp
  refine ⟨_, rfl, ?_, progB_yes hp⟩
  have h9 := ttSum_small h c.threads.length
  rw [take_all (Nat.le_refl _)] at h9
  rw [← hn, sizeB_yes (progB_yes h), sizeB_yes (progB_yes hp)]
  show IntKind.i64.wrap ((ttSum c.threads : Int) + 2) = (ttSum z : Int)
  have h8 : ttSum z = ttSum c.threads + 2 := by rw [← hz]; simp [ttSum, two9]
  rw [IntWalk.i64_in _ (by omega)]; omega
theorem progOk_sem {c : ProgD} {xs : List Int} (h : ProgOk c) (h3 : ¬ c.sems.length = 3) (hx : c.sems ++ [1] = xs) : ProgOk ⟨xs, c.groups, c.barriers, c.rooms, c.threads⟩ ∧ ¬ c = ⟨xs, c.groups, c.barriers, c.rooms, c.threads⟩ := by
  obtain ⟨g0, g1, g2, g3, g4, g5, g6⟩ := h
  have hl : xs.length = c.sems.length + 1 := by rw [← hx]; simp
  refine ⟨⟨⟨?_, ?_⟩, g1, g2, g3, g4, g5, fun t ht => ⟨(g6 t ht).1, fun x hx' => ?_⟩⟩, ?_⟩
  · show xs.length ≤ 3; have := g0.1; omega
  · intro x hx'
    rw [show (ProgD.mk xs c.groups c.barriers c.rooms c.threads).sems = xs from rfl, ← hx] at hx'
    rcases List.mem_append.1 hx' with h | h
    · exact g0.2 x h
    · rw [List.mem_singleton.1 h]; omega
  · rcases (g6 t ht).2 x hx' with h | ⟨k1, k2, k3, k4, k5⟩ | h
    · exact .inl h
    · refine .inr (.inl ⟨k1, k2, ?_, k4, ?_⟩)
      · show x.2.1 < (xs.length : Int); omega
      · show x.2.2 ≤ xs.getD x.2.1.toNat 0
        rw [← hx, List.getD_eq_getElem?_getD, List.getElem?_append_left (by omega), ← List.getD_eq_getElem?_getD]; exact k5
    · exact .inr (.inr h)
  · intro e
    have e1 : c.sems = xs := congrArg ProgD.sems e
    rw [e1] at hl; omega
theorem size_sem {c : ProgD} {xs : List Int} (h : ProgOk c) (h3 : ¬ c.sems.length = 3) (hx : c.sems ++ [1] = xs) :
    ∃ n : Int, sizeB c = n ∧ sizeB ⟨xs, c.groups, c.barriers, c.rooms, c.threads⟩ = n ∧ progB ⟨xs, c.groups, c.barriers, c.rooms, c.threads⟩ = true := by
  have hp := (progOk_sem h h3 hx).1
  refine ⟨_, rfl, ?_, progB_yes hp⟩
  rw [sizeB_yes (progB_yes h), sizeB_yes (progB_yes hp)]
theorem two9_row {w : World} {g : Nat} (h : w.heap[g]? = some (.cells #[.int .i64 1, .int .i64 0, .int .i64 1, .int .i64 1, .int .i64 0, .int .i64 2] 36 (0, 0))) : TRow w (.slice (some ⟨g, 0, none⟩) two9.length 2) two9 :=
  (Own.shut (base := 0) (cur := #[.int .i64 1, .int .i64 0, .int .i64 1, .int .i64 1, .int .i64 0, .int .i64 2]) rfl (Nat.zero_le _) rfl h (Nat.le_refl _) (by decide) rfl rfl : Own 0 36 3 encT w (.slice (some ⟨g, 0, none⟩) two9.length 2) two9).row encT_len
theorem TTRow.more9 {w : World} {us nL : List SV} {ts z : List (List OpT)} {t : List OpT} {v : Value} {a : Option Addr} {p : Nat} (hin : Inner w us ts) (hl : us ++ [(a, t.length, p)] = nL) (hr : Row 1 encS w v nL) (ht : TRow w (.slice a t.length p) t) (hz : ts ++ [t] = z) : TTRow w v z :=
  ⟨nL, hr, by rw [← hl, ← hz]; exact hin.snoc9 ht⟩
theorem size_all {c : ProgD} (h : ProgOk c) : sizeB c = (ttSum c.threads : Nat) ∧ ttSum c.threads ≤ 32 := by
  have h9 := ttSum_small h c.threads.length
  rw [take_all (Nat.le_refl _)] at h9
  exact ⟨sizeB_yes (progB_yes h), h9⟩
end Go.Proofs.Ytobkammimkgnkaa
