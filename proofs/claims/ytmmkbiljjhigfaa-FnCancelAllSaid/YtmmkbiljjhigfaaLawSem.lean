/- Plain facts and contracts for the laws on semaphores. -/
import Derived.Test.YtmmkbiljjhigfaaExSem
import Derived.Test.YtmmkbiljjhigfaaSemSame
import Derived.Test.YtmmkbiljjhigfaaSemValidS
import Derived.Test.YtmmkbiljjhigfaaBytes
namespace Go.Proofs.Ytmmkbiljjhigfaa
open Go.RowKit
set_option linter.unusedSimpArgs false
set_option linter.unusedVariables false
theorem SemSameO (v1 v2 : Value) (c d : SemD) (w : World) (h1 : SemRow w v1 c) (h2 : SemRow w v2 d) :
    Calls Try.prog 35 #[v1, v2] w fun e w' => e = .returned (.bool (decide (c = d))) ∧ Below w.heap.size w w' := by
  obtain ⟨a, p, rfl, hp⟩ := h1
  obtain ⟨b, q, rfl, hq⟩ := h2
  exact SemSame_calls c.free c.limit d.free d.limit _ _ c.q d.q w hp hq
theorem SemValidO (v : Value) (c : SemD) (w : World) (h : SemRow w v c) :
    Calls Try.prog 37 #[v] w fun e w' => e = .returned (.bool (semB c)) ∧ Below w.heap.size w w' := by
  obtain ⟨a, p, rfl, hp⟩ := h
  exact SemValid_calls c.free c.limit _ c.q w hp
theorem sSemValidO (v : Value) (c : SemD) (w : World) (h : SemRow w v c) :
    Calls Try.prog 73 #[v] w fun e w' => e = .returned (.bool (semB c)) ∧ Below w.heap.size w w' := by
  obtain ⟨a, p, rfl, hp⟩ := h
  exact sSemValid_calls c.free c.limit _ c.q w hp
theorem tryAcq_in {s r : SemD} {n : Int} {b1 : Bool} (h : tryAcq s n = (r, b1, true)) : 1 ≤ n ∧ n ≤ s.limit := by
  unfold tryAcq at h
  split at h
  · rename_i hs; exact hs.2
  · injection h with _ h; injection h with _ h; cases h
theorem tryAcq_ok {s r : SemD} {n : Int} {b1 : Bool} (h : tryAcq s n = (r, b1, true)) : semB r = true ∧ semB s = true ∧ ((b1 = true ∧ s.q.length = 0 ∧ n ≤ s.free ∧ r = ⟨s.free - n, s.limit, s.q⟩) ∨ (b1 = false ∧ ¬ (s.q.length = 0 ∧ n ≤ s.free) ∧ r = s)) := by
  have h1 := semB_tryAcq (s := s) (c := n) (by rw [h])
  rw [h] at h1
  refine ⟨h1, ?_⟩
  unfold tryAcq at h
  split at h
  · rename_i hs
    split at h
    · rename_i hq; injection h with h1 h; injection h with h2 _; exact ⟨hs.1, .inl ⟨h2.symm, hq.1, hq.2, h1.symm⟩⟩
    · rename_i hq; injection h with h1 h; injection h with h2 _; exact ⟨hs.1, .inr ⟨h2.symm, hq, h1.symm⟩⟩
  · injection h with _ h; injection h with _ h; cases h
theorem acq_ok {s r : SemD} {t n : Int} {b1 : Bool} (h : acq s t n = (r, b1, true)) : semB r = true ∧ semB s = true ∧ thrB t = true ∧ t ∉ s.q.map (·.1) ∧ 1 ≤ n ∧ n ≤ s.limit ∧
    ((b1 = true ∧ s.q.length = 0 ∧ n ≤ s.free ∧ r = ⟨s.free - n, s.limit, s.q⟩) ∨ (b1 = false ∧ ¬ (s.q.length = 0 ∧ n ≤ s.free) ∧ r = ⟨s.free, s.limit, s.q ++ [(t, n)]⟩)) := by
  have h1 := semB_acq (s := s) (t := t) (c := n) (by rw [h])
  rw [h] at h1
  refine ⟨h1, ?_⟩
  unfold acq at h
  split at h
  · rename_i hs
    obtain ⟨s1, s2, s3, s4, s5⟩ := hs
    split at h
    · rename_i hq; injection h with h1 h; injection h with h2 _; exact ⟨s1, s2, s3, s4, s5, .inl ⟨h2.symm, hq.1, hq.2, h1.symm⟩⟩
    · rename_i hq; injection h with h1 h; injection h with h2 _; exact ⟨s1, s2, s3, s4, s5, .inr ⟨h2.symm, hq, h1.symm⟩⟩
  · injection h with _ h; injection h with _ h; cases h
theorem rel_ok {s r : SemD} {n : Int} {y : List Int} (h : rel s n = (r, y, true)) : semB r = true ∧ semB s = true ∧ 1 ≤ n ∧ n ≤ s.limit - s.free ∧ r = ⟨(serve (s.free + n) s.q).1, s.limit, (serve (s.free + n) s.q).2.1⟩ ∧ y = (serve (s.free + n) s.q).2.2 := by
  have h1 := semB_rel (s := s) (c := n) (by rw [h])
  rw [h] at h1
  refine ⟨h1, ?_⟩
  unfold rel at h
  split at h
  · rename_i hs
    injection h with h1 h; injection h with h2 _; exact ⟨hs.1, hs.2.1, hs.2.2, h1.symm, h2.symm⟩
  · injection h with _ h; injection h with _ h; cases h
theorem acq_got {s r : SemD} {t n : Int} {b2 : Bool} (h : acq s t n = (r, true, b2)) : b2 = true := by
  unfold acq at h
  split at h
  · split at h <;> (injection h with _ h; injection h with _ h; exact h.symm)
  · injection h with _ h; injection h with h _; cases h
theorem tryWait_no {s r r2 : SemD} {n : Int} {b1 c1 : Bool} (h : tryAcq s n = (r, b1, true)) (h2 : acq s 5 n = (r2, c1, false)) : b1 = false := by
  have h0 := h
  obtain ⟨_, hs, h⟩ := tryAcq_ok h
  rcases h with ⟨_, k1, k2, _⟩ | ⟨k, _⟩
  · exfalso
    obtain ⟨i1, i2⟩ := tryAcq_in h0
    have hq : s.q = [] := List.length_eq_zero_iff.1 k1
    have : acq s 5 n = (⟨s.free - n, s.limit, s.q⟩, true, true) := by
      unfold acq
      rw [if_pos ⟨hs, by decide, by rw [hq]; simp, i1, i2⟩, if_pos ⟨k1, k2⟩]
    rw [this] at h2
    injection h2 with _ h2; injection h2 with _ h2; cases h2
  · exact k
theorem tryWait_yes {s r r2 : SemD} {n : Int} {b1 c1 : Bool} (h : tryAcq s n = (r, b1, true)) (h2 : acq s 5 n = (r2, c1, true)) : c1 = b1 ∧ (c1 = true → r = r2) := by
  obtain ⟨_, hs, h⟩ := tryAcq_ok h
  obtain ⟨_, _, _, _, _, _, h2⟩ := acq_ok h2
  rcases h with ⟨rfl, k1, k2, k3⟩ | ⟨rfl, k1, k3⟩ <;> rcases h2 with ⟨rfl, m1, m2, m3⟩ | ⟨rfl, m1, m3⟩
  · exact ⟨rfl, fun _ => by rw [k3, m3]⟩
  · exact absurd ⟨k1, k2⟩ m1
  · exact absurd ⟨m1, m2⟩ k1
  · exact ⟨rfl, fun e => by cases e⟩
theorem acq_two {s r : SemD} {t n : Int} (h : acq s t n = (r, true, true)) (hn : ¬ n < 2) : ∃ ry, acq s t 1 = (ry, true, true) ∧ acq ry ((t + 1) % 6) (n - 1) = (r, true, true) ∧ (0 ≤ t ∧ t ≤ 5) ∧ n ≤ 10 := by
  obtain ⟨_, hs, ht, hin, h1, h2, h⟩ := acq_ok h
  rcases h with ⟨_, k1, k2, rfl⟩ | ⟨k, _⟩
  · have ht' : 0 ≤ t ∧ t < 6 := by simpa [thrB, Thr] using ht
    have e1 : acq s t 1 = (⟨s.free - 1, s.limit, s.q⟩, true, true) := by
      unfold acq; rw [if_pos ⟨hs, ht, hin, by omega, by omega⟩, if_pos ⟨k1, by omega⟩]
    have hsm := semB_small hs
    have hq : s.q = [] := List.length_eq_zero_iff.1 k1
    have v1 := semB_acq (s := s) (t := t) (c := 1) (by rw [e1])
    rw [e1] at v1
    refine ⟨_, e1, ?_, by omega, by have := hsm.l1; omega⟩
    have h6 : 0 ≤ (t + 1) % 6 ∧ (t + 1) % 6 < 6 := by omega
    have h7 : thrB ((t + 1) % 6) = true := by simpa [thrB, Thr] using h6
    unfold acq
    rw [if_pos ⟨v1, h7, by simp [hq], by omega, by simp only; omega⟩, if_pos ⟨k1, by simp only; omega⟩]
    simp only [Prod.mk.injEq, SemD.mk.injEq, and_true]
    omega
  · cases k
theorem semB_top {s : SemD} (h : semB s = true) : s.free ≤ s.limit ∧ (¬ s.free < s.limit → s.q.length = 0) := by
  obtain ⟨⟨a1, a2, a3, a4, a5⟩, b, d, e⟩ := semB_true.1 h
  refine ⟨a4, fun hn => ?_⟩
  cases hq : s.q with
  | nil => rfl
  | cons x r =>
    rw [hq] at e
    have := b x (by rw [hq]; simp)
    unfold HeadOver at e
    omega
theorem IRow.at_ {w : World} {a : Option Addr} {n c : Nat} {xs : List Int} (h : IRow w (.slice a n c) xs) : 0 < xs.length → ∃ b off, a = some ⟨b, off, none⟩ ∧ b < w.heap.size ∧ ∀ i x, xs[i]? = some x → w.cell? ⟨b, off + i, none⟩ = some (.int .i64 x) := by
  obtain ⟨a', c', e, _, _, h⟩ := h.look
  injection e with e1 _ _; subst e1; exact h
theorem PRow.at_ {w : World} {a : Option Addr} {n c : Nat} {xs : List (Int × Int)} (h : PRow w (.slice a n c) xs) : 0 < xs.length → ∃ b off, a = some ⟨b, off, none⟩ ∧ b < w.heap.size ∧
    ∀ i x, xs[i]? = some x → w.cell? ⟨b, off + i * 2, none⟩ = some (.int .i64 x.1) ∧ w.cell? ⟨b, off + i * 2 + 1, none⟩ = some (.int .i64 x.2) := by
  obtain ⟨a', c', e, _, _, h⟩ := h.look
  injection e with e1 _ _; subst e1; exact h
theorem SemRow.at_ {w : World} {f l : Value} {a : Option Addr} {n p : Nat} {c : SemD} (h : SemRow w (.agg #[f, l, .slice a n p]) c) : PRow w (.slice a n p) c.q := by
  obtain ⟨a', p', e, h⟩ := h
  simp only [Value.agg.injEq, Array.mk.injEq, List.cons.injEq, and_true] at e
  obtain ⟨_, _, e⟩ := e
  rw [e]; exact h
theorem serve_who (f : Int) (q : List (Int × Int)) : (serve f q).2.2.length ≤ q.length ∧ ∀ k z, q[k]? = some z → k < (serve f q).2.2.length → (serve f q).2.2[k]? = some z.1 := by
  induction q generalizing f with
  | nil => exact ⟨Nat.le_refl _, fun k z h => by simp at h⟩
  | cons x r ih =>
    by_cases h : x.2 ≤ f
    · simp only [serve, if_pos h]
      obtain ⟨h1, h2⟩ := ih (f - x.2)
      refine ⟨by simp only [List.length_cons]; omega, fun k z hz hk => ?_⟩
      cases k with
      | zero => simp only [List.getElem?_cons_zero, Option.some.injEq] at hz ⊢; rw [hz]
      | succ k => simp only [List.getElem?_cons_succ] at hz ⊢; exact h2 k z hz (by simpa using hk)
    · simp only [serve, if_neg h]
      exact ⟨Nat.zero_le _, fun k z _ hk => by simp at hk⟩
theorem rel_rest {s : SemD} (hs : semB s = true) (hne : ¬ s.free = s.limit) : ∃ r y, rel s (s.limit - s.free) = (r, y, true) ∧ (y.length ≤ s.q.length ∧ ∀ k z, s.q[k]? = some z → k < y.length → y[k]? = some z.1) ∧ (0 < s.q.length → 0 < y.length) := by
  have h1 := (semB_top hs).1
  have he : rel s (s.limit - s.free) = (⟨(serve (s.free + (s.limit - s.free)) s.q).1, s.limit, (serve (s.free + (s.limit - s.free)) s.q).2.1⟩, (serve (s.free + (s.limit - s.free)) s.q).2.2, true) := by
    unfold rel; rw [if_pos ⟨hs, by omega, by omega⟩]
  refine ⟨_, _, he, serve_who _ _, fun hq => ?_⟩
  obtain ⟨_, b, _, _⟩ := semB_true.1 hs
  cases hc : s.q with
  | nil => rw [hc] at hq; simp at hq
  | cons x r =>
    have := (b x (by rw [hc]; simp)).2
    simp only [serve, if_pos (show x.2 ≤ s.free + (s.limit - s.free) by omega), List.length_cons]
    omega
def sumB (q : List (Int × Int)) (k : Nat) : Int := ((q.take k).map (·.2)).sum
theorem sumB_succ {q : List (Int × Int)} {k : Nat} {z : Int × Int} (h : q[k]? = some z) : sumB q (k + 1) = sumB q k + z.2 := by
  unfold sumB; rw [take_snoc h]; simp
theorem sumB_bound {q : List (Int × Int)} (h : ∀ z ∈ q, 1 ≤ z.2 ∧ z.2 ≤ 9) : ∀ k : Nat, k ≤ q.length → 0 ≤ sumB q k ∧ sumB q k ≤ 9 * k
  | 0, _ => by simp [sumB]
  | k + 1, hk => by
    obtain ⟨z, hz⟩ := get_ex (show k < q.length by omega)
    have h1 := sumB_bound h k (by omega)
    have h2 := h z (get_mem hz)
    rw [sumB_succ hz]; omega
theorem SemRow.drewN {w : World} {v : Value} {c : SemD} (h : SemRow w v c) (n : Nat) : SemRow (w.drewN n) v c := h.below (below_drewN (Below.refl _ _) n)
theorem heap_drewN {w : World} {k : Nat} {A : Obj} (h : w.heap[k]? = some A) (n : Nat) : (w.drewN n).heap[k]? = some A := h
theorem rel_bounds {s r : SemD} {n : Int} {y : List Int} (h : rel s n = (r, y, true)) : 0 ≤ s.free ∧ s.free ≤ 9 ∧ 1 ≤ n ∧ n ≤ 9 ∧ s.q.length ≤ 6 ∧ s.limit ≤ 9 ∧ ∀ z ∈ s.q, (0 ≤ z.1 ∧ z.1 ≤ 10) ∧ 1 ≤ z.2 ∧ z.2 ≤ 9 := by
  obtain ⟨_, hs, h1, h2, _⟩ := rel_ok h
  have hq := (semB_small hs).q
  obtain ⟨⟨a1, a2, a3, a4, a5⟩, b, d, e⟩ := semB_true.1 hs
  exact ⟨by omega, by omega, by omega, by omega, by omega, by omega, fun z hz => by have := hq z hz; have := b z hz; omega⟩
/-- What is left, and who has got some. -/
theorem rel_split {s r : SemD} {n : Int} {y : List Int} (h : rel s n = (r, y, true)) : y.length ≤ s.q.length ∧ r.q.length = s.q.length - y.length ∧ (∀ j, r.q[j]? = s.q[y.length + j]?) ∧ (∀ k z, s.q[k]? = some z → k < y.length → y[k]? = some z.1) ∧ r.free = s.free + n - sumB s.q y.length := by
  obtain ⟨_, hs, h1, h2, rfl, rfl⟩ := rel_ok h
  obtain ⟨⟨a1, a2, a3, a4, a5⟩, b, d, e⟩ := semB_true.1 hs
  obtain ⟨_, _, _, k, hk, e1, e2, e3⟩ := serve_ok s.q (s.free + n) (by omega) (fun x hx => (b x hx).1)
  have hl : (serve (s.free + n) s.q).2.2.length = k := by rw [e2]; simp; omega
  refine ⟨by omega, by simp only [e1, List.length_drop, hl], fun j => by simp only [e1, hl, List.getElem?_drop], (serve_who _ _).2, ?_⟩
  simp only [hl, sumB]; exact e3
theorem rel_one {c : SemD} (hs : semB c = true) (hf : c.free < c.limit) : ∃ r y, rel c 1 = (r, y, true) := by
  unfold rel; rw [if_pos ⟨hs, by omega, by omega⟩]; exact ⟨_, _, rfl⟩
/-- What has come of releasing k permits one by one. -/
def RelI (s : SemD) (k : Nat) (c : SemD) (al : List Int) : Prop := semB c = true ∧ c = ⟨(serve (s.free + k) s.q).1, s.limit, (serve (s.free + k) s.q).2.1⟩ ∧ al = (serve (s.free + k) s.q).2.2
theorem RelI.start {s : SemD} (hs : semB s = true) : RelI s 0 s [] := by
  obtain ⟨f, l, q⟩ := s
  have e : serve f q = (f, q, []) := by
    have h := (semB_true.1 hs).2.2.2
    cases q with
    | nil => rfl
    | cons x r => simp only [HeadOver] at h; simp only [serve, if_neg (show ¬ x.2 ≤ f by omega)]
  refine ⟨hs, ?_, ?_⟩ <;> simp [e]
theorem RelI.len {s c : SemD} {k : Nat} {al : List Int} (h : RelI s k c al) (hs : semB s = true) : al.length ≤ 6 := by
  have := (serve_who (s.free + k) s.q).1
  have := (semB_true.1 hs).1.2.2.2.2
  rw [h.2.2]; omega
theorem RelI.step {s c : SemD} {k : Nat} {n : Int} {al : List Int} (h : RelI s k c al) (hs : semB s = true) (hn : n ≤ s.limit - s.free) (hk : (k : Int) < n) : ∃ r y, rel c 1 = (r, y, true) ∧ RelI s (k + 1) r (al ++ y) := by
  obtain ⟨hc, e1, e2⟩ := h
  obtain ⟨⟨a1, a2, a3, a4, a5⟩, b, d, e⟩ := semB_true.1 hs
  obtain ⟨s1, s2, _⟩ := serve_ok s.q (s.free + k) (by omega) (fun x hx => (b x hx).1)
  have hlt : c.free < c.limit := by rw [e1]; simp only; omega
  obtain ⟨r, y, hr⟩ := rel_one hc hlt
  obtain ⟨hv, _, _, _, e3, e4⟩ := rel_ok hr
  obtain ⟨g1, g2, g3⟩ := serve_add s.q (s.free + k) 1 (by omega)
  have ek : s.free + ((k + 1 : Nat) : Int) = s.free + k + 1 := by omega
  refine ⟨r, y, hr, hv, ?_, ?_⟩
  · rw [e3, ek, g1, g2, e1]
  · rw [ek, g3, e2, e4, e1]
theorem RelI.fin {s c r : SemD} {k : Nat} {n : Int} {al y : List Int} (h : RelI s k c al) (hr : rel s n = (r, y, true)) (hk : (k : Int) = n) : c = r ∧ al = y := by
  obtain ⟨_, _, _, _, e3, e4⟩ := rel_ok hr
  rw [h.2.1, h.2.2, e3, e4, hk]
  exact ⟨rfl, rfl⟩
theorem rel_over (s : SemD) : rel s (s.limit - s.free + 1) = (SemD.zero, [], false) := by
  unfold rel; rw [if_neg (by omega)]
end Go.Proofs.Ytmmkbiljjhigfaa
