/- PlaceOf: what it returns; plain facts for the laws on semaphores whose waiters go (made by gen_cancellaws.py). -/
import Derived.Test.YtmmkbiljjhigfaaLawSem
import Derived.Test.YtmmkbiljjhigfaaExCancel
namespace Go.Proofs.Ytmmkbiljjhigfaa
open Go.RowKit
set_option linter.unusedSimpArgs false
set_option linter.unusedVariables false
def place (s : SemD) (t : Int) : Int × Bool := if semB s = true ∧ t ∈ s.q.map (·.1) then (findW t s.q, true) else (0, false)
theorem findO (v : Value) (s : SemD) (t : Int) (w : World) (h : SemRow w v s) :
    Calls Try.prog 71 #[v, .int .i64 t] w fun e w' => e = .returned (.int .i64 (findW t s.q)) ∧ Below w.heap.size w w' := by
  obtain ⟨a, p, rfl, hp⟩ := h
  exact find_calls s.free s.limit _ s.q t w hp
set_option maxHeartbeats 3200000 in
theorem PlaceOfO (v : Value) (s : SemD) (t i1 : Int) (b1 : Bool) (w : World) (h : SemRow w v s) (hr : place s t = (i1, b1)) :
    Calls Try.prog 38 #[v, .int .i64 t] w fun e w' => e = .returned (.tuple #[.int .i64 i1, .bool b1]) ∧ Below w.heap.size w w' := by
  have HP := Lib.hid h
  obtain ⟨aP2, pP2, rfl, hq⟩ := h
  clear hq
  have HR := Lib.hid hr; clear hr
  go_enter Try.func38, Try.ntmps38
  go_wp2_with (fail)
  refine (SemValidO _ s _ (SemRow.below HP.out (Below.alloc (Below.refl _ _) (by first | omega | (simp only [szA, szS, szD, World.heap_drewN] at * <;> omega)) _))).mono ?_
  rintro e w1 ⟨rfl, hb⟩
  have B1 := Lib.hid (Below.trans (Below.alloc (Below.refl _ _) (by first | omega | (simp only [szA, szS, szD, World.heap_drewN] at * <;> omega)) _) (hb.mono (by first | omega | (simp only [szA, szS, szD, World.heap_drewN] at * <;> omega))) : Below w.heap.size w w1)
  have Z1 := hb.size
  have N1 : w.heap.size + 1 ≤ w1.heap.size := (by first | exact Z1 | (simp only [szA, szS, szD] at Z1; omega))
  clear Z1
  have Xp_1 : Hid (w1.heap[w.heap.size]? = some (.cells #[.int .i64 s.free, .int .i64 s.limit, .slice aP2 s.q.length pP2] 48 (0, 0))) := below_at hb (heap_at' (n := w.heap.size) (by first | omega | (simp only [szA, szS, szD, World.heap_drewN] at * <;> omega)))
  clear hb
  obtain ⟨cp1_0, cp1_1, cp1_2, fp1_0, fp1_1, fp1_2⟩ := box3 Xp_1.out; have lp1 := heap_lt Xp_1.out
  have S1 : w.heap.size ≤ w1.heap.size := by omega
  cases hv : semB s
  · have HV := Lib.hid hv; clear hv
    have he := HR.out; unfold place at he; rw [if_neg (fun h => by rw [HV.out] at h; cases h.1)] at he; injection he with e1 e2; subst e1 e2
    go_wp2_with (fail)
    exact bodyPost_ret (v := .tuple #[.int .i64 0, .bool false]) (by simp [results, Try.results38, go_sem]) rfl ⟨rfl, B1.out⟩
  · have HV := Lib.hid hv; clear hv
    go_wp2_with (fail)
    refine (findO _ s t _ (SemRow.below HP.out B1.out)).mono ?_
    rintro e w2 ⟨rfl, hb⟩
    have B2 := Lib.hid (Below.trans B1.out (hb.mono (by first | omega | (simp only [szA, szS, szD, World.heap_drewN] at * <;> omega))) : Below w.heap.size w w2)
    have Z2 := hb.size
    have N2 : w1.heap.size ≤ w2.heap.size := (by first | exact Z2 | (simp only [szA, szS, szD] at Z2; omega))
    clear Z2
    have Xp_2 := Lib.hid (below_at hb Xp_1.out)
    clear hb
    obtain ⟨cp2_0, cp2_1, cp2_2, fp2_0, fp2_1, fp2_2⟩ := box3 Xp_2.out; have lp2 := heap_lt Xp_2.out
    have S2 : w.heap.size ≤ w2.heap.size := by omega
    clear cp1_0 cp1_1 cp1_2 fp1_0 fp1_1 fp1_2
    by_cases hin : t ∈ s.q.map (·.1)
    · obtain ⟨k, hk, hf⟩ := findW_some hin
      have he := HR.out; unfold place at he; rw [if_pos ⟨HV.out, hin⟩, hf] at he; injection he with e1 e2; subst e1 e2
      rw [hf]
      have HF := Lib.hid hf; clear hf hin
      have d0 : decide ((k : Int) < 0) = false := decide_eq_false (by omega)
      go_wp2_with (fail)
      refine (findO _ s t _ (SemRow.below HP.out B2.out)).mono ?_
      rw [HF.out]
      rintro e w3 ⟨rfl, hb⟩
      have B3 := Lib.hid (Below.trans B2.out (hb.mono (by first | omega | (simp only [szA, szS, szD, World.heap_drewN] at * <;> omega))) : Below w.heap.size w w3)
      have Z3 := hb.size
      have N3 : w2.heap.size ≤ w3.heap.size := (by first | exact Z3 | (simp only [szA, szS, szD] at Z3; omega))
      clear Z3
      have Xp_3 := Lib.hid (below_at hb Xp_2.out)
      clear hb
      obtain ⟨cp3_0, cp3_1, cp3_2, fp3_0, fp3_1, fp3_2⟩ := box3 Xp_3.out; have lp3 := heap_lt Xp_3.out
      have S3 : w.heap.size ≤ w3.heap.size := by omega
      clear cp2_0 cp2_1 cp2_2 fp2_0 fp2_1 fp2_2
      go_wp2_with (fail)
      exact bodyPost_ret (v := .tuple #[.int .i64 k, .bool true]) (by simp [results, Try.results38, go_sem]) rfl ⟨rfl, B3.out⟩
    · have d0 : decide (findW t s.q < 0) = true := decide_eq_true (findW_neg.2 hin)
      have HI := Lib.hid hin; clear hin
      have he := HR.out; unfold place at he; rw [if_neg (fun h => HI.out h.2)] at he; injection he with e1 e2; subst e1 e2
      go_wp2_with (fail)
      exact bodyPost_ret (v := .tuple #[.int .i64 0, .bool false]) (by simp [results, Try.results38, go_sem]) rfl ⟨rfl, B2.out⟩
theorem serve_top {f : Int} {q : List (Int × Int)} (h : HeadOver f q) : serve f q = (f, q, []) := by
  cases q with
  | nil => rfl
  | cons x r => simp only [HeadOver] at h; simp only [serve, if_neg (show ¬ x.2 ≤ f by omega)]
theorem findW_snoc {t n : Int} {q : List (Int × Int)} (h : t ∉ q.map (·.1)) : findW t (q ++ [(t, n)]) = (q.length : Int) := by
  have e : (q ++ [(t, n)])[q.length]? = some (t, n) := by simp
  refine findW_at e (fun y hy hh => h ?_) rfl
  rw [List.take_left'] at hy
  · exact List.mem_map.2 ⟨y, hy, hh⟩
  · rfl
theorem acq_yes {s r : SemD} {t n : Int} {b2 : Bool} (h : acq s t n = (r, true, b2)) : rel r n = (s, [], true) ∧ semB r = true := by
  obtain rfl := acq_got h
  obtain ⟨hv, hs, _, _, n1, n2, h⟩ := acq_ok h
  rcases h with ⟨_, k1, k2, rfl⟩ | ⟨k, _⟩
  · have hq : s.q = [] := List.length_eq_zero_iff.1 k1
    have ht := (semB_top hs).1
    refine ⟨?_, hv⟩
    unfold rel
    rw [if_pos ⟨hv, n1, by simp only; omega⟩]
    obtain ⟨f, l, q⟩ := s
    simp only at hq k2 ht ⊢
    subst hq
    simp only [serve, Int.sub_add_cancel]
  · cases k
theorem acq_waits {s r : SemD} {t n : Int} (h : acq s t n = (r, false, true)) : place r t = ((s.q.length : Int), true) ∧ cancel r t = (s, [], true) ∧ semB r = true ∧ s.q.length ≤ 6 := by
  obtain ⟨hv, hs, _, hin, n1, n2, h⟩ := acq_ok h
  rcases h with ⟨k, _⟩ | ⟨_, k1, rfl⟩
  · cases k
  · have hm : t ∈ (s.q ++ [(t, n)]).map (·.1) := by simp
    have hf := findW_snoc (n := n) hin
    refine ⟨?_, ?_, hv, (semB_true.1 hs).1.2.2.2.2⟩
    · unfold place; rw [if_pos ⟨hv, hm⟩, hf]
    · unfold cancel
      rw [if_pos ⟨hv, hm⟩]
      simp only [hf, Int.toNat_natCast]
      have hc : cut (s.q ++ [(t, n)]) s.q.length = s.q := by simp [cut]
      rw [hc, serve_top (semB_true.1 hs).2.2.2]
theorem cancel_in {s r : SemD} {t : Int} {y : List Int} (h : cancel s t = (r, y, true)) : semB s = true ∧ t ∈ s.q.map (·.1) ∧ r = ⟨(serve s.free (cut s.q (findW t s.q).toNat)).1, s.limit, (serve s.free (cut s.q (findW t s.q).toNat)).2.1⟩ ∧ y = (serve s.free (cut s.q (findW t s.q).toNat)).2.2 := by
  unfold cancel at h
  split at h
  · rename_i hs
    injection h with h1 h; injection h with h2 _; exact ⟨hs.1, hs.2, h1.symm, h2.symm⟩
  · injection h with _ h; injection h with _ h; cases h
theorem distinct_cut {q : List (Int × Int)} {k : Nat} (h : Distinct (q.map (·.1))) : Distinct ((cut q k).map (·.1)) := by
  have hs : (cut q k).Sublist q := by
    have h1 : (q.take k ++ q.drop (k + 1)).Sublist (q.take k ++ q.drop k) := List.Sublist.append_left (by rw [← List.drop_drop]; exact List.drop_sublist 1 _) _
    rw [List.take_append_drop] at h1; exact h1
  exact ⟨fun x hx => h.1 x ((hs.map _).subset hx), h.2.sublist (hs.map _)⟩
theorem distinct_drop {q : List (Int × Int)} {k : Nat} (h : Distinct (q.map (·.1))) : Distinct ((q.drop k).map (·.1)) := by
  have hs := List.drop_sublist k q
  exact ⟨fun x hx => h.1 x ((hs.map _).subset hx), h.2.sublist (hs.map _)⟩
theorem cut_gone {q : List (Int × Int)} {k : Nat} {z : Int × Int} (h : Distinct (q.map (·.1))) (hz : q[k]? = some z) : z.1 ∉ (cut q k).map (·.1) := by
  intro hm
  have hlt : k < q.length := (List.getElem?_eq_some_iff.1 hz).1
  obtain ⟨_, hn⟩ := h
  have e : q = q.take k ++ z :: q.drop (k + 1) := by
    rw [← (List.getElem?_eq_some_iff.1 hz).2, List.getElem_cons_drop]; simp
  rw [e, List.map_append, List.map_cons, List.nodup_append] at hn
  obtain ⟨_, h2, h3⟩ := hn
  rw [List.nodup_cons] at h2
  simp only [cut, List.map_append, List.mem_append] at hm
  rcases hm with hm | hm
  · exact h3 _ hm _ (by simp) rfl
  · exact h2.1 hm
theorem find_is {t : Int} : ∀ {q : List (Int × Int)}, t ∈ q.map (·.1) → ∃ (k : Nat) (z : Int × Int), q[k]? = some z ∧ z.1 = t ∧ ∀ y ∈ q.take k, y.1 ≠ t
  | [], h => by simp at h
  | x :: r, h => by
    by_cases e : x.1 = t
    · exact ⟨0, x, rfl, e, by simp⟩
    · have h' : t ∈ r.map (·.1) := by
        simp only [List.map_cons, List.mem_cons] at h
        rcases h with h | h
        · exact absurd h.symm e
        · exact h
      obtain ⟨k, z, h1, h2, h3⟩ := find_is h'
      refine ⟨k + 1, z, by simpa using h1, h2, fun y hy => ?_⟩
      simp only [List.take_succ_cons, List.mem_cons] at hy
      rcases hy with rfl | hy
      · exact e
      · exact h3 y hy
theorem cancel_ok {s r : SemD} {t : Int} {y : List Int} (h : cancel s t = (r, y, true)) :
    ∃ k : Nat, k < s.q.length ∧ place s t = ((k : Int), true) ∧ place r t = (0, false) ∧ semB r = true ∧ semB s = true ∧ r.q.length + y.length = s.q.length - 1 ∧ (k = 0 ∨ y.length = 0) ∧ r.free ≤ s.free ∧ r.limit = s.limit ∧ r.q.length < s.q.length := by
  obtain ⟨hs, hm, rfl, rfl⟩ := cancel_in h
  obtain ⟨⟨a1, a2, a3, a4, a5⟩, hb, hd, he⟩ := semB_true.1 hs
  obtain ⟨k, z, hz, hzt, hpre⟩ := find_is hm
  have hk : k < s.q.length := (List.getElem?_eq_some_iff.1 hz).1
  have hf := findW_at hz hpre hzt
  simp only [hf, Int.toNat_natCast]
  have hcl := cut_len hk
  obtain ⟨s1, s2, s3, m, hm1, hm2, hm3, hm4⟩ := serve_ok (cut s.q k) s.free a3 (fun x hx => (hb x (cut_mem hx)).1)
  have hgone : t ∉ ((cut s.q k).drop m).map (·.1) := fun hh => by
    have := cut_gone hd hz
    rw [hzt] at this
    exact this (((List.drop_sublist m _).map _).subset hh)
  refine ⟨k, hk, by unfold place; rw [if_pos ⟨hs, hm⟩, hf], ?_, ?_, hs, ?_, ?_, s2, trivial, ?_⟩
  · unfold place; rw [if_neg]; rintro ⟨_, hh⟩; rw [hm2] at hh; exact hgone hh
  · refine semB_true.2 ⟨⟨a1, a2, s1, by simp only; omega, ?_⟩, ?_, ?_, s3⟩
    · simp only [hm2, List.length_drop]; omega
    · intro x hx; simp only [hm2] at hx; exact hb x (cut_mem (List.mem_of_mem_drop hx))
    · simp only [hm2]; exact distinct_drop (distinct_cut hd)
  · rw [hm2, hm3]; simp only [List.length_drop, List.length_map, List.length_take]; omega
  · by_cases k0 : k = 0
    · exact .inl k0
    · right
      have hh : HeadOver s.free (cut s.q k) := by
        cases hq : s.q with
        | nil => rw [hq] at hk; simp at hk
        | cons x r =>
          obtain ⟨k', rfl⟩ : ∃ k', k = k' + 1 := ⟨k - 1, by omega⟩
          rw [hq] at he
          simp only [cut, List.take_succ_cons, List.cons_append, HeadOver] at he ⊢; exact he
      rw [serve_top hh]; rfl
  · simp only [hm2, List.length_drop]; omega
theorem cancel_last {s : SemD} {z : Int × Int} (hs : semB s = true) (hz : s.q[s.q.length - 1]? = some z) : ∃ r y, cancel s z.1 = (r, y, true) := by
  unfold cancel
  rw [if_pos ⟨hs, List.mem_map.2 ⟨z, get_mem hz, rfl⟩⟩]; exact ⟨_, _, rfl⟩
def qLen (w : World) (b : Nat) : Nat := match w.cell? ⟨b, 2, none⟩ with | some (.slice _ n _) => n | _ => 0
theorem qLen_of {w : World} {b n p : Nat} {x y : Value} {a : Option Addr} {T : TypeId} (h : w.heap[b]? = some (.cells #[x, y, .slice a n p] T (0, 0))) : qLen w b = n := by
  obtain ⟨_, _, h2, _⟩ := box3 h
  unfold qLen; rw [h2]
end Go.Proofs.Ytmmkbiljjhigfaa
