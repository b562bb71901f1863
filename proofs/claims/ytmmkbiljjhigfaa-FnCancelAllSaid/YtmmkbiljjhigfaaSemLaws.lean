/- Plain facts: acquiring, trying and releasing keep a semaphore valid; serving adds up. -/
import Derived.Test.YtmmkbiljjhigfaaSemRes
namespace Go.Proofs.Ytmmkbiljjhigfaa
open Go.RowKit
set_option linter.unusedSimpArgs false
set_option linter.unusedVariables false

theorem nodup_small : ∀ (n : Nat) (xs : List Int), xs.Nodup → (∀ x ∈ xs, 0 ≤ x ∧ x < (n : Int)) → xs.length ≤ n
  | 0, xs, _, h => by
    cases xs with
    | nil => simp
    | cons x r => have := h x (by simp); omega
  | n + 1, xs, hn, h => by
    have hl : (xs.erase (n : Int)).length ≤ n := nodup_small n _ (hn.erase _) fun x hx => by
      have h1 := (List.Nodup.mem_erase_iff hn).1 hx
      have h2 := h x h1.2
      have h3 := h1.1
      omega
    rw [List.length_erase] at hl
    split at hl <;> omega
theorem Distinct.small {xs : List Int} (h : Distinct xs) : xs.length ≤ 6 := nodup_small 6 xs h.2 fun x hx => by
  have := h.1 x hx; unfold Thr at this; omega

theorem serve_ok : ∀ (q : List (Int × Int)) (f : Int), 0 ≤ f → (∀ x ∈ q, 1 ≤ x.2) → 0 ≤ (serve f q).1 ∧ (serve f q).1 ≤ f ∧ HeadOver (serve f q).1 (serve f q).2.1 ∧
    ∃ k, k ≤ q.length ∧ (serve f q).2.1 = q.drop k ∧ (serve f q).2.2 = (q.take k).map (·.1) ∧ (serve f q).1 = f - ((q.take k).map (·.2)).sum
  | [], f, hf, _ => ⟨hf, Int.le_refl _, trivial, 0, by simp, rfl, rfl, by simp [serve]⟩
  | x :: r, f, hf, hc => by
    by_cases h : x.2 ≤ f
    · simp only [serve, if_pos h]
      have hx := hc x (by simp)
      obtain ⟨h1, h2, h3, k, hk, h4, h5, h6⟩ := serve_ok r (f - x.2) (by omega) (fun y hy => hc y (by simp [hy]))
      refine ⟨h1, by omega, h3, k + 1, by simp; omega, by simpa using h4, by simp [h5], ?_⟩
      simp only [List.take_succ_cons, List.map_cons, List.sum_cons]
      omega
    · simp only [serve, if_neg h]
      exact ⟨hf, Int.le_refl _, by unfold HeadOver; omega, 0, by simp, rfl, rfl, by simp⟩
theorem serve_add : ∀ (q : List (Int × Int)) (f b : Int), 0 ≤ b → (serve (f + b) q).1 = (serve ((serve f q).1 + b) (serve f q).2.1).1 ∧
    (serve (f + b) q).2.1 = (serve ((serve f q).1 + b) (serve f q).2.1).2.1 ∧ (serve (f + b) q).2.2 = (serve f q).2.2 ++ (serve ((serve f q).1 + b) (serve f q).2.1).2.2
  | [], f, b, _ => by simp [serve]
  | x :: r, f, b, hb => by
    by_cases h : x.2 ≤ f
    · have h' : x.2 ≤ f + b := by omega
      obtain ⟨h1, h2, h3⟩ := serve_add r (f - x.2) b hb
      have e : f + b - x.2 = f - x.2 + b := by omega
      simp only [serve, if_pos h, if_pos h', e, h1, h2, h3, List.cons_append, and_self]
    · have e : serve f (x :: r) = (f, x :: r, []) := by simp only [serve, if_neg h]
      rw [e]
      simp

theorem SemOk.serve {f l c : Int} {q : List (Int × Int)} (h : SemOk ⟨f, l, q⟩) (h1 : 1 ≤ c) (h2 : c ≤ l - f) : SemOk ⟨(serve (f + c) q).1, l, (serve (f + c) q).2.1⟩ := by
  obtain ⟨⟨a1, a2, a3, a4, a5⟩, b, d, e⟩ := h
  obtain ⟨s1, s2, s3, k, hk, s4, s5, s6⟩ := serve_ok q (f + c) (by simp only at a3; omega) (fun x hx => (b x hx).1)
  simp only at a1 a2 a3 a4 a5 b d e
  refine ⟨⟨a1, a2, s1, by simp only; omega, ?_⟩, ?_, ?_, s3⟩
  · simp only [s4, List.length_drop]; omega
  · simp only [s4]; exact fun x hx => b x (List.mem_of_mem_drop hx)
  · simp only [s4]
    refine ⟨fun x hx => d.1 x ?_, d.2.sublist ?_⟩
    · exact ((List.drop_sublist k q).map _).mem hx
    · exact (List.drop_sublist k q).map _

theorem semB_rel {s : SemD} {c : Int} (h : (rel s c).2.2 = true) : semB (rel s c).1 = true := by
  unfold rel at h ⊢
  split
  · rename_i hs
    exact semB_true.2 ((semB_true.1 hs.1).serve hs.2.1 hs.2.2)
  · rename_i hs; rw [if_neg hs] at h; cases h
theorem semB_tryAcq {s : SemD} {c : Int} (h : (tryAcq s c).2.2 = true) : semB (tryAcq s c).1 = true := by
  unfold tryAcq at h ⊢
  split
  · rename_i hs
    have hs' := semB_true.1 hs.1
    split
    · rename_i hq
      obtain ⟨⟨a1, a2, a3, a4, a5⟩, b, d, e⟩ := hs'
      have hq0 : s.q = [] := List.length_eq_zero_iff.1 hq.1
      refine semB_true.2 ⟨⟨a1, a2, by simp only; omega, by simp only; omega, a5⟩, b, d, ?_⟩
      simp only [hq0, HeadOver]
    · exact hs.1
  · rename_i hs; rw [if_neg hs] at h; cases h
theorem semB_acq {s : SemD} {t c : Int} (h : (acq s t c).2.2 = true) : semB (acq s t c).1 = true := by
  unfold acq at h ⊢
  split
  · rename_i hs
    have hs' := semB_true.1 hs.1
    obtain ⟨⟨a1, a2, a3, a4, a5⟩, b, d, e⟩ := hs'
    obtain ⟨_, ht, hn, hc1, hc2⟩ := hs
    split
    · rename_i hq
      have hq0 : s.q = [] := List.length_eq_zero_iff.1 hq.1
      refine semB_true.2 ⟨⟨a1, a2, by simp only; omega, by simp only; omega, a5⟩, b, d, ?_⟩
      simp only [hq0, HeadOver]
    · rename_i hq
      have hd : Distinct ((s.q ++ [(t, c)]).map (·.1)) := by
        rw [List.map_append]; exact d.snoc ht hn
      refine semB_true.2 ⟨⟨a1, a2, a3, a4, by simpa using hd.small⟩, ?_, hd, ?_⟩
      · intro x hx
        rcases List.mem_append.1 hx with hx | hx
        · exact b x hx
        · simp only [List.mem_singleton] at hx; subst hx; exact ⟨hc1, hc2⟩
      · cases hq2 : s.q with
        | nil => simp only [hq2, List.length_nil, true_and, Int.not_le, List.nil_append, HeadOver] at hq ⊢; exact hq
        | cons y r => rw [hq2] at e; simpa [HeadOver] using e
  · rename_i hs; rw [if_neg hs] at h; cases h
/-- What a valid semaphore holds is small. -/
structure SemSmall (s : SemD) : Prop where
  f0 : -1 ≤ s.free
  f1 : s.free ≤ 10
  l0 : 0 ≤ s.limit
  l1 : s.limit ≤ 10
  n : s.q.length ≤ 10
  q : ∀ x ∈ s.q, 0 ≤ x.1 ∧ x.1 ≤ 10 ∧ 0 ≤ x.2 ∧ x.2 ≤ 10
theorem semB_small {s : SemD} (h : semB s = true) : SemSmall s := by
  obtain ⟨⟨a1, a2, a3, a4, a5⟩, b, d, e⟩ := semB_true.1 h
  refine ⟨by omega, by omega, by omega, by omega, by omega, fun x hx => ?_⟩
  have h1 := b x hx
  have h2 := d.1 x.1 (List.mem_map.2 ⟨x, hx, rfl⟩)
  unfold Thr at h2
  omega
end Go.Proofs.Ytmmkbiljjhigfaa
