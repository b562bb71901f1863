/- A region that draws its order, one goal for each operation; marked values are new and lie apart (made by gen_rga.py from XRg). -/
import Derived.Test.YtobkammimkgnkaaG1
namespace Go.Proofs.Ytobkammimkgnkaa
open Go.RowKit
set_option linter.unusedSimpArgs false
set_option linter.unusedVariables false
section
variable {P : Program} {md : Region.Mode} {ops : Array Oper} {Q : Exit → Act → World → Prop} {S : World → Prop} {C : Nat → World → Prop} {R : Bool → World → World → Prop} {a : Act} {F0 : Nat} {rs : List RgOp} {fl : Nat → Bool} {gr : Nat → Nat}

/-- The goal of one operation. -/
def RgGoalA (P : Program) (ops : Array Oper) (Q : Exit → Act → World → Prop) (S : World → Prop) (C : Nat → World → Prop) (R : Bool → World → World → Prop) (a : Act) (F0 : Nat) (rs : List RgOp) (fl : Nat → Bool) (gr : Nat → Nat) (ks : List Nat) (i : RgOp) : Prop :=
  ((∀ u v w w', R false w w' → i.F u v w → i.F u v w') ∧ (i.wr = false → ∀ u v w w', R true w w' → i.F u v w → i.F u v w')) ∧
  (fl i.idx = true → ∀ u v w, i.F u v w → ∀ g, v.ownBlock = some g → g < w.heap.size) ∧
  ∃ o, ops[i.idx]? = some o ∧ ∀ f u w, f < F0 → C (f + 1) w → FAll rs u w i.deps → ∀ K : Act → World → Prop,
    Shut (∀ v w', S w' → C f w' → R i.wr w w' → i.F (mask i.deps u) v w' → (fl i.idx = true → ∀ g, v.ownBlock = some g → w.heap.size ≤ g ∨ ∃ d ∈ i.deps, fl d = true ∧ gr d = gr i.idx ∧ (u d).ownBlock = some g) → K ((putAll ops a u ks).put o.dst v) w') →
    if Region.wanted o (yielded ops (putAll ops a u ks).tmps) = true then Oper.wp P o (putAll ops a u ks) w K Q else K ((putAll ops a u ks).put o.dst undef) w

def RgGoalsA (P : Program) (ops : Array Oper) (Q : Exit → Act → World → Prop) (S : World → Prop) (C : Nat → World → Prop) (R : Bool → World → World → Prop) (a : Act) (F0 : Nat) (rs : List RgOp) (fl : Nat → Bool) (gr : Nat → Nat) (ks : List Nat) : List RgOp → Prop
  | [] => True
  | i :: r => RgGoalA P ops Q S C R a F0 rs fl gr ks i ∧ RgGoalsA P ops Q S C R a F0 rs fl gr ks r

theorem RgGoalsA.mem {ks : List Nat} {i : RgOp} : ∀ {l : List RgOp}, RgGoalsA P ops Q S C R a F0 rs fl gr ks l → i ∈ l → RgGoalA P ops Q S C R a F0 rs fl gr ks i
  | [], _, h => by cases h
  | j :: r, h, hi => by
    rcases List.mem_cons.1 hi with rfl | hi
    · exact h.1
    · exact h.2.mem hi

theorem rg_auxA {listed0 : Array Bool} {X : Nat} (hW : oneB rs = true) (hB : rgB md ops listed0 F0 (rs.map (·.idx)) (rs.map (·.deps)) = true)
    (hfq : ∀ d, fl d = true → d ∈ rs.map (·.idx)) (hG : RgGoalsA P ops Q S C R a F0 rs fl gr (rs.map (·.idx)) rs)
    (hE : ∀ u w, C X w → FAll rs u w (rs.map (·.idx)) → (∀ i k : Nat, fl i = true → fl k = true → gr i ≠ gr k → Apart (u i) (u k)) → wpAnyH P md ops Q S X (listAll listed0 (rs.map (·.idx))) (putAll ops a u (rs.map (·.idx))) w) :
    ∀ (fuel : Nat) (listed : Array Bool) (u : Nat → Value) (w : World), fuel ≤ F0 → listed.size = ops.size →
      (∀ i, i ∉ rs.map (·.idx) → listed[i]? = listed0[i]?) → fuel = X + ((rs.map (·.idx)).filter fun i => !listed.getD i true).length →
      (∀ i, listed0.getD i false = true → listed.getD i false = true) →
      (∀ k ∈ rs, listed.getD k.idx true = true → ∀ j ∈ k.deps, listed.getD j false = true) → C fuel w → (∀ k ∈ rs, listed.getD k.idx true = true → k.holds u w) → (∀ j k : Nat, fl j = true → fl k = true → gr j ≠ gr k → listed.getD j true = true → listed.getD k true = true → Apart (u j) (u k)) →
      wpAnyH P md ops Q S fuel listed (putAll ops a u (rs.map (·.idx))) w := by
  simp only [rgB, Bool.and_eq_true, List.all_eq_true, List.mem_range, beq_iff_eq] at hB
  obtain ⟨⟨⟨⟨⟨⟨hsz0, hap⟩, _⟩, _⟩, hrest⟩, hback0⟩, hdeps0⟩ := hB
  have hnd := apart_nodup ops hap
  have hback : ∀ i o, ops[i]? = some o → ∀ e ∈ o.after, Region.binds md e = true → e.on < i := by
    intro i o ho e he hb
    have h1 := hback0 i (Array.getElem?_eq_some_iff.1 ho).1
    rw [ho] at h1
    have h2 := Array.all_eq_true_iff_forall_mem.1 h1 e he
    simpa [hb] using h2
  rw [zip_maps] at hdeps0
  have hedges : ∀ r ∈ rs, ∃ o, ops[r.idx]? = some o ∧ (∀ e ∈ o.after, Region.binds md e = true → listed0.getD e.on false = true ∨ e.on ∈ rs.map (·.idx)) ∧
      ∀ j ∈ r.deps, ∃ e ∈ o.after, Region.binds md e = true ∧ (e.on = j ∨ ∃ k ∈ rs, k.idx = e.on ∧ j ∈ k.deps) := by
    intro r hr
    have h1 := hdeps0 (r.idx, r.deps) (List.mem_map_of_mem hr)
    cases ho : ops[r.idx]? with
    | none => simp [ho] at h1
    | some o =>
      simp only [ho, Bool.and_eq_true, List.all_eq_true] at h1
      refine ⟨o, rfl, fun e he hb => ?_, fun j hj => ?_⟩
      · have h2 := Array.all_eq_true_iff_forall_mem.1 h1.1 e he
        simp only [hb, Bool.not_true, Bool.false_or, Bool.or_eq_true, List.contains_eq_mem, decide_eq_true_eq] at h2
        exact h2
      · obtain ⟨e, he, h3⟩ := Array.any_eq_true'.1 (h1.2 j hj)
        simp only [Bool.and_eq_true, Bool.or_eq_true, beq_iff_eq, List.any_eq_true, List.mem_map, List.contains_eq_mem, decide_eq_true_eq] at h3
        refine ⟨e, he, h3.1, ?_⟩
        rcases h3.2 with h4 | ⟨x, ⟨k, hk, rfl⟩, h5, h6⟩
        · exact .inl h4
        · exact .inr ⟨k, hk, h5, h6⟩
  -- where all that is told of has come up
  have hend : ∀ (fuel : Nat) (listed : Array Bool) (u : Nat → Value) (w : World), listed.size = ops.size → (∀ i, i ∉ rs.map (·.idx) → listed[i]? = listed0[i]?) →
      fuel = X + ((rs.map (·.idx)).filter fun i => !listed.getD i true).length → (∀ k ∈ rs, listed.getD k.idx true = true) → C fuel w → (∀ k ∈ rs, listed.getD k.idx true = true → k.holds u w) → (∀ j k : Nat, fl j = true → fl k = true → gr j ≠ gr k → listed.getD j true = true → listed.getD k true = true → Apart (u j) (u k)) →
      wpAnyH P md ops Q S fuel listed (putAll ops a u (rs.map (·.idx))) w := by
    intro fuel listed u w hsz hoff hfu hall hC hF hA
    have h0 : ((rs.map (·.idx)).filter fun i => !listed.getD i true) = [] := by
      rw [List.filter_eq_nil_iff]
      intro i hi
      obtain ⟨k, hk, rfl⟩ := List.mem_map.1 hi
      simp [hall k hk]
    have hfx : fuel = X := by rw [hfu, h0]; rfl
    subst hfx
    have hl : listed = listAll listed0 (rs.map (·.idx)) := by
      apply Array.ext_getElem?
      intro i
      rw [listAll_get]
      by_cases hi : i ∈ rs.map (·.idx)
      · by_cases hlt : i < listed0.size
        · rw [if_pos ⟨hi, hlt⟩]
          obtain ⟨k, hk, rfl⟩ := List.mem_map.1 hi
          have h1 := hall k hk
          have h2 : k.idx < listed.size := by omega
          rw [Array.getElem?_eq_getElem h2]
          simpa [h2] using h1
        · rw [if_neg (fun h => hlt h.2), Array.getElem?_eq_none (by omega), Array.getElem?_eq_none (by omega)]
      · rw [if_neg (fun h => hi h.1)]; exact hoff i hi
    rw [hl]
    refine hE u w hC (FAll.at_ fun k _ => FAt.of fun i hi _ => hF i hi (hall i hi)) ?_
    intro i k hfi hfk hg
    obtain ⟨i', hi', rfl⟩ := List.mem_map.1 (hfq i hfi)
    obtain ⟨k', hk', rfl⟩ := List.mem_map.1 (hfq k hfk)
    exact hA _ _ hfi hfk hg (hall i' hi') (hall k' hk')
  intro fuel
  induction fuel with
  | zero =>
    intro listed u w hf hsz hoff hfu _ hcl hC hF hA
    refine hend 0 listed u w hsz hoff hfu (fun k hk => ?_) hC hF hA
    cases hl : listed.getD k.idx true with
    | true => rfl
    | false =>
      have hz : ((rs.map (·.idx)).filter fun i => !listed.getD i true).length = 0 := by omega
      have : k.idx ∈ (rs.map (·.idx)).filter fun i => !listed.getD i true := List.mem_filter.2 ⟨List.mem_map_of_mem hk, by rw [hl]; rfl⟩
      rw [List.eq_nil_of_length_eq_zero hz] at this
      cases this
  | succ fuel ih =>
    intro listed u w hf hsz hoff hfu hmono hcl hC hF hA
    by_cases hall : ∀ k ∈ rs, listed.getD k.idx true = true
    · exact hend (fuel + 1) listed u w hsz hoff hfu hall hC hF hA
    -- what may come up is told of
    have hready : ∀ i ∈ Region.ready md ops listed, i ∈ rs.map (·.idx) := by
      intro i hi
      obtain ⟨hiun, o, ho, hedge⟩ := mem_ready.1 hi
      refine Classical.byContradiction fun hni => ?_
      have hilt := (Array.getElem?_eq_some_iff.1 ho).1
      have h1 := hrest i hilt
      have h2 : listed0.getD i true = false := by
        have h2 := hoff i hni
        have : i < listed.size := by omega
        have h3 : i < listed0.size := by omega
        simp only [Array.getD_eq_getD_getElem?, ← h2] at hiun ⊢
        exact hiun
      have h3 : (rs.map (·.idx)).contains i = false := by simpa using hni
      simp only [h2, h3, Bool.false_or, ho, List.all_eq_true] at h1
      refine hall fun k hk => ?_
      obtain ⟨e, he, h4⟩ := Array.any_eq_true'.1 (h1 k.idx (List.mem_map_of_mem hk))
      simp only [Bool.and_eq_true, beq_iff_eq] at h4
      have := hedge e he h4.1
      rw [h4.2] at this
      exact getD_false_true this
    refine ⟨fun h0 => ?_, fun i hi => ?_⟩
    · -- the first that has not come up may come up
      exfalso
      have : ∀ n, ∀ k ∈ rs, k.idx = n → listed.getD k.idx true = true := by
        intro n
        induction n using Nat.strongRecOn with
        | _ n ihn =>
          intro k hk hkn
          cases hl : listed.getD k.idx true with
          | true => rfl
          | false =>
            obtain ⟨o, ho, he, _⟩ := hedges k hk
            have : k.idx ∈ Region.ready md ops listed := mem_ready.2 ⟨hl, o, ho, fun e hee hb => by
              rcases he e hee hb with h | h
              · exact hmono _ h
              · obtain ⟨k', hk', e'⟩ := List.mem_map.1 h
                have hlt := hback k.idx o ho e hee hb
                have h5 := ihn k'.idx (by omega) k' hk' rfl
                rw [e'] at h5
                have h6 : k.idx < ops.size := (Array.getElem?_eq_some_iff.1 ho).1
                have h7 : e.on < listed.size := by omega
                simpa [h7] using h5⟩
            rw [h0] at this
            cases this
      exact hall fun k hk => this k.idx k hk rfl
    · obtain ⟨hiun, o, ho, hedge⟩ := mem_ready.1 hi
      have hilt := (Array.getElem?_eq_some_iff.1 ho).1
      obtain ⟨r, hr, hri⟩ := List.mem_map.1 (hready i hi)
      subst hri
      have hdl : ∀ k ∈ rs, k.idx = r.idx → ∀ j ∈ k.deps, listed.getD j false = true := by
        intro k hk hki j hj
        obtain ⟨o', ho', _, hd⟩ := hedges k hk
        rw [hki, ho] at ho'
        cases ho'
        obtain ⟨e, he, hb, h⟩ := hd j hj
        have hle := hedge e he hb
        rcases h with h | ⟨k', hk', h1, h2⟩
        · rw [← h]; exact hle
        · exact hcl k' hk' (by rw [h1]; exact getD_false_true hle) j h2
      obtain ⟨_, _, o', ho', H⟩ := hG.mem hr
      rw [ho] at ho'
      cases ho'
      have hset : (listed.setIfInBounds r.idx true).getD r.idx true = true := by
        have : r.idx < listed.size := by omega
        simp [this]
      have hback1 : ∀ k, (listed.setIfInBounds r.idx true).getD k true = true → k ≠ r.idx → listed.getD k true = true := fun k h hne => by
        rw [getD_set_ne true (Ne.symm hne)] at h; exact h
      refine wpOp_step ho fun K' hK => H fuel u w (by omega) hC (FAll.at_ fun j hj => FAt.of fun k hk e => hF k hk (by rw [e]; exact getD_false_true (hdl r hr rfl j hj))) K' ?_
      intro v w' hS' hC' hR' hF' hnew
      refine hK _ _ ⟨hS', ?_⟩
      have hd : o.dst = dstOf ops r.idx := by simp [dstOf, ho]
      rw [hd, putAll_put ops a u r.idx v _ hap (List.mem_map_of_mem hr)]
      refine ih _ _ _ (by omega) (by simpa using hsz) ?_ ?_ ?_ ?_ hC' ?_ ?_
      · intro j hj
        rw [Array.getElem?_setIfInBounds_ne (fun e => hj (by rw [← e]; exact List.mem_map_of_mem hr))]
        exact hoff j hj
      · have := filter_less (p := fun i => !listed.getD i true) (q := fun i => !(listed.setIfInBounds r.idx true).getD i true) (i := r.idx) (l := rs.map (·.idx))
          (fun x hx => by rw [getD_set_ne true (Ne.symm hx)]) hnd (List.mem_map_of_mem hr) (by rw [hiun]; rfl) (by rw [hset]; rfl)
        omega
      · intro j hj; exact getD_set_true (hmono j hj)
      · intro k hk hkl j hj
        by_cases e : k.idx = r.idx
        · exact getD_set_true (hdl k hk e j hj)
        · exact getD_set_true (hcl k hk (hback1 _ hkl e) j hj)
      · intro k hk hkl
        by_cases e : k.idx = r.idx
        · have := apart_inj ops hap hk hr e
          subst this
          show k.F (mask k.deps (setU u k.idx v)) (setU u k.idx v k.idx) w'
          rw [setU_same, mask_setU (fun h => getD_true_false hiun (hdl k hk rfl _ h))]
          exact hF'
        · have h0 := hback1 _ hkl e
          show k.F (mask k.deps (setU u r.idx v)) (setU u r.idx v k.idx) w'
          rw [setU_ne u v e, mask_setU (fun h => getD_true_false hiun (hcl k hk h0 _ h))]
          cases hrw : r.wr with
          | false => rw [hrw] at hR'; exact (hG.mem hk).1.1 _ _ _ _ hR' (hF k hk h0)
          | true => rw [hrw] at hR'; exact (hG.mem hk).1.2 (oneB_spec hW hr hk hrw e) _ _ _ _ hR' (hF k hk h0)
      · have hnew' : fl r.idx = true → ∀ k, fl k = true → gr k ≠ gr r.idx → k ≠ r.idx → listed.getD k true = true → Apart v (u k) := by
          intro hfr k hfk hgk hkr hlk g e1 e2
          rcases hnew hfr g e1 with h1 | ⟨d, hd1, hd2, hd3, hd4⟩
          · obtain ⟨k', hk', rfl⟩ := List.mem_map.1 (hfq k hfk)
            have h2 := (hG.mem hk').2.1 hfk _ _ _ (hF k' hk' hlk) g e2
            omega
          · exact hA d k hd2 hfk (fun e => hgk (by rw [← e, hd3])) (getD_false_true (hdl r hr rfl d hd1)) hlk g hd4 e2
        intro j k hfj hfk hg hlj hlk
        by_cases ej : j = r.idx
        · have hkr : k ≠ r.idx := fun e => hg (by rw [ej, e])
          rw [ej, setU_same, setU_ne u v hkr]
          exact hnew' (by rw [← ej]; exact hfj) k hfk (fun e => hg (by rw [ej, e])) hkr (hback1 _ hlk hkr)
        · by_cases ek : k = r.idx
          · rw [ek, setU_same, setU_ne u v ej]
            exact (hnew' (by rw [← ek]; exact hfk) j hfj (fun e => hg (by rw [ek, e])) ej (hback1 _ hlj ej)).symm
          · rw [setU_ne u v ej, setU_ne u v ek]
            exact hA j k hfj hfk hg (hback1 _ hlj ej) (hback1 _ hlk ek)
/-- **The region, operation by operation, up to those that wait for all of these.** -/
theorem wpAnyH_rgA {w : World} {fuel : Nat} {listed : Array Bool} (rs : List RgOp) (fl : Nat → Bool) (gr : Nat → Nat) (hfq : ∀ d, fl d = true → d ∈ rs.map (·.idx)) (C : Nat → World → Prop) (R : Bool → World → World → Prop)
    (hW : oneB rs = true) (hB : rgB md ops listed fuel (rs.map (·.idx)) (rs.map (·.deps)) = true) (hC : C fuel w) (hG : RgGoalsA P ops Q S C R a fuel rs fl gr (rs.map (·.idx)) rs)
    (hE : ∀ u w, C (fuel - rs.length) w → FAll rs u w (rs.map (·.idx)) → (∀ i k : Nat, fl i = true → fl k = true → gr i ≠ gr k → Apart (u i) (u k)) → wpAnyH P md ops Q S (fuel - rs.length) (listAll listed (rs.map (·.idx))) (putAll ops a u (rs.map (·.idx))) w) : wpAnyH P md ops Q S fuel listed a w := by
  have h0 := hB
  simp only [rgB, Bool.and_eq_true, List.all_eq_true, List.mem_range, beq_iff_eq] at h0
  obtain ⟨⟨⟨⟨⟨⟨hsz, _⟩, hun⟩, hlen⟩, _⟩, _⟩, _⟩ := h0
  have hun' : ∀ k ∈ rs, listed.getD k.idx true = false := fun k hk => by
    have := hun k.idx (List.mem_map_of_mem hk)
    simpa using this
  have hlen' : rs.length ≤ fuel := by simpa using hlen
  have hfl : ((rs.map (·.idx)).filter fun i => !listed.getD i true).length = rs.length := by
    rw [List.filter_eq_self.2]
    · simp
    · intro i hi
      obtain ⟨k, hk, rfl⟩ := List.mem_map.1 hi
      rw [hun' k hk]; rfl
  have h1 := rg_auxA hW hB hfq hG hE fuel listed (slotVal ops a) w (Nat.le_refl _) hsz (fun _ _ => rfl) (by rw [hfl]; omega) (fun _ h => h)
    (fun k hk hl => by rw [hun' k hk] at hl; cases hl) hC (fun k hk hl => by rw [hun' k hk] at hl; cases hl) (fun j k hfj _ _ hl _ => by obtain ⟨j', hj', rfl⟩ := List.mem_map.1 (hfq j hfj); rw [hun' j' hj'] at hl; cases hl)
  rw [putAll_self] at h1
  exact h1
/-- The same, from the region's beginning. -/
theorem wp_region_rgA {id : Nat} {w : World} (rs : List RgOp) (fl : Nat → Bool) (gr : Nat → Nat) (hfq : ∀ d, fl d = true → d ∈ rs.map (·.idx)) (C : Nat → World → Prop) (R : Bool → World → World → Prop) (hm : P.follows .mixedOrders = true) (hW : oneB rs = true)
    (hB : rgB .any ops (Array.replicate ops.size false) ops.size (rs.map (·.idx)) (rs.map (·.deps)) = true) (hC : C ops.size w.drew)
    (hG : RgGoalsA P ops Q (fun _ => True) C R a ops.size rs fl gr (rs.map (·.idx)) rs)
    (hE : ∀ u w, C (ops.size - rs.length) w → FAll rs u w (rs.map (·.idx)) → (∀ i k : Nat, fl i = true → fl k = true → gr i ≠ gr k → Apart (u i) (u k)) → wpAnyH P .any ops Q (fun _ => True) (ops.size - rs.length) (listAll (Array.replicate ops.size false) (rs.map (·.idx))) (putAll ops a u (rs.map (·.idx))) w) :
    (Code.region id ops true).wp P Q a w :=
  wp_region_held_drew (S := fun _ => True) hm trivial fun _ => wpAnyH_rgA rs fl gr hfq C R hW hB hC hG hE

def GoalA (P : Program) (ops : Array Oper) (Q : Exit → Act → World → Prop) (C : Nat → World → Prop) (R : Bool → World → World → Prop) (a : Act) (F0 : Nat) (rs : List RgOp) (fl : Nat → Bool) (gr : Nat → Nat) (ds : List (Nat × Option Tmp)) (i : RgOp) : Prop :=
  ((∀ u v w w', R false w w' → i.F u v w → i.F u v w') ∧ (i.wr = false → ∀ u v w w', R true w w' → i.F u v w → i.F u v w')) ∧
  (fl i.idx = true → ∀ u v w, i.F u v w → ∀ g, v.ownBlock = some g → g < w.heap.size) ∧
  ∃ o, ops[i.idx]? = some o ∧ ∀ f u w, f < F0 → C (f + 1) w → FAll rs u w i.deps → ∀ K : Act → World → Prop,
    Shut (∀ v w', C f w' → R i.wr w w' → i.F (mask i.deps u) v w' → (fl i.idx = true → ∀ g, v.ownBlock = some g → w.heap.size ≤ g ∨ ∃ d ∈ i.deps, fl d = true ∧ gr d = gr i.idx ∧ (u d).ownBlock = some g) → K ((putL a u ds).put o.dst v) w') →
    if Region.wanted o (yielded ops (putL a u ds).tmps) = true then Oper.wp P o (putL a u ds) w K Q else K ((putL a u ds).put o.dst undef) w
def GoalsA (P : Program) (ops : Array Oper) (Q : Exit → Act → World → Prop) (C : Nat → World → Prop) (R : Bool → World → World → Prop) (a : Act) (F0 : Nat) (rs : List RgOp) (fl : Nat → Bool) (gr : Nat → Nat) (ds : List (Nat × Option Tmp)) : List RgOp → Prop
  | [] => True
  | i :: r => GoalA P ops Q C R a F0 rs fl gr ds i ∧ GoalsA P ops Q C R a F0 rs fl gr ds r
theorem GoalsA.goals {ds : List (Nat × Option Tmp)} {ks : List Nat} (hd : ∀ u, putL a u ds = putAll ops a u ks) : ∀ {l : List RgOp}, GoalsA P ops Q C R a F0 rs fl gr ds l → RgGoalsA P ops Q (fun _ => True) C R a F0 rs fl gr ks l
  | [], _ => trivial
  | i :: r, h => by
    refine ⟨⟨h.1.1, h.1.2.1, ?_⟩, h.2.goals hd⟩
    obtain ⟨o, ho, H⟩ := h.1.2.2
    refine ⟨o, ho, fun f u w hf hC hD K hK => ?_⟩
    have h1 := H f u w hf hC hD K (fun v w' hC' hR hF hn => by rw [hd]; exact hK v w' trivial hC' hR hF hn)
    rw [hd] at h1
    exact h1
theorem GoalsA.nil {ds : List (Nat × Option Tmp)} : GoalsA P ops Q C R a F0 rs fl gr ds [] := trivial
theorem GoalsA.cons {ds : List (Nat × Option Tmp)} {i : RgOp} {r : List RgOp} (h : GoalA P ops Q C R a F0 rs fl gr ds i) (t : GoalsA P ops Q C R a F0 rs fl gr ds r) : GoalsA P ops Q C R a F0 rs fl gr ds (i :: r) := ⟨h, t⟩
theorem GoalA.mk {l : List Oper} {ds : List (Nat × Option Tmp)} {k : Nat} {wr : Bool} {D : List Nat} {F : (Nat → Value) → Value → World → Prop} {o : Oper} (ho : nth l k = some o)
    (hst : (∀ u v w w', R false w w' → F u v w → F u v w') ∧ (wr = false → ∀ u v w w', R true w w' → F u v w → F u v w'))
    (hb : fl k = true → ∀ u v w, F u v w → ∀ g, v.ownBlock = some g → g < w.heap.size)
    (h : ∀ f u w, f < F0 → C (f + 1) w → FAll rs u w D → ∀ K : Act → World → Prop,
      Shut (∀ v w', C f w' → R wr w w' → F (mask D u) v w' → (fl k = true → ∀ g, v.ownBlock = some g → w.heap.size ≤ g ∨ ∃ d ∈ D, fl d = true ∧ gr d = gr k ∧ (u d).ownBlock = some g) → K ((putL a u ds).put o.dst v) w') →
      Closed (if Region.wanted o (yielded l.toArray (putL a u ds).tmps) = true then Oper.wp P o (putL a u ds) w K Q else K ((putL a u ds).put o.dst undef) w)) : GoalA P l.toArray Q C R a F0 rs fl gr ds ⟨k, wr, D, F⟩ :=
  ⟨hst, hb, o, by rw [nth_eq]; exact ho, fun f u w hf hC hD K hK => (h f u w hf hC hD K hK).out⟩
/-- **A region that draws its order, operation by operation**, up to those that wait for all of these. -/
theorem wp_region_A {id : Nat} {w : World} (rs : List RgOp) (fl : Nat → Bool) (gr : Nat → Nat) (hfq : ∀ d, fl d = true → d ∈ rs.map (·.idx)) (ds : List (Nat × Option Tmp)) (C : Nat → World → Prop) (R : Bool → World → World → Prop) (hm : P.follows .mixedOrders = true) (hW : oneB rs = true)
    (hB : rgB .any ops (Array.replicate ops.size false) ops.size (rs.map (·.idx)) (rs.map (·.deps)) = true) (hD : dsB ops ds (rs.map (·.idx)) = true) (hC : C ops.size w.drew)
    (hG : GoalsA P ops Q C R a ops.size rs fl gr ds rs)
    (hE : ∀ u w, C (ops.size - rs.length) w → FAll rs u w (rs.map (·.idx)) → (∀ i k : Nat, fl i = true → fl k = true → gr i ≠ gr k → Apart (u i) (u k)) → Closed (wpAnyH P .any ops Q (fun _ => True) (ops.size - rs.length) (listAll (Array.replicate ops.size false) (rs.map (·.idx))) (putL a u ds) w)) :
    (Code.region id ops true).wp P Q a w := by
  simp only [dsB, Bool.and_eq_true, List.all_eq_true, beq_iff_eq] at hD
  have hd : ∀ u, putL a u ds = putAll ops a u (rs.map (·.idx)) := fun u => by
    rw [← hD.1]; exact putL_eq fun x hx => hD.2 x hx
  exact wp_region_rgA rs fl gr hfq C R hm hW hB hC (hG.goals hd) fun u w hC' hF hA => by have := (hE u w hC' hF hA).out; rw [hd] at this; exact this
end
/-- append(T{}, src...) where T{} is block g: what was there stays; the new slice's block is g or new. -/
theorem run_cloneE {α : Type} {P : Program} (w : World) {k : Nat} {enc : α → List Value} (hk : ∀ x, (enc x).length = k) (h1 : ∀ x, ∀ u ∈ enc x, u.oneCell' = true) (t ty e : TypeId) (z : Value) (bytes : Nat)
    (ht : P.underlying t = some (.slice e)) (hinfo : (P.info? e).map (fun i => (i.zero, i.size, i.bytes)) = some (some z, k, bytes)) (hzs : z.cells.size = k) (hsz : 0 < k)
    (base g : Nat) (hg : w.heap[g]? = some (.cells #[] e (0, 0))) (hbase : base ≤ g) (sv : Value) (xs : List α) (hrow : Row k enc w sv xs) (hb0 : 0 < bytes) (hbytes : xs.length * bytes ≤ 140737488355328) :
    ∃ ad cap w', (Builtin.append_ #[t, t] ty #[.slice (some ⟨g, 0, none⟩) 0 0, sv]).run P w = .ok (.slice ad xs.length cap) w' ∧ Own base e k enc w' (.slice ad xs.length cap) xs ∧ Below w.heap.size w w' ∧
      ∀ g', (Value.slice ad xs.length cap).ownBlock = some g' → w.heap.size ≤ g' ∨ g' = g := by
  obtain ⟨ad, cap, w', hr, ho, hgr⟩ := run_cloneAt (P := P) w hk h1 t ty e z bytes ht hinfo hzs hsz base g hg hbase sv xs hrow hb0 hbytes
  obtain ⟨i, hi, hz, hsize, hby⟩ := info_parts hinfo
  have hn : xs.length ≤ 140737488355328 := Nat.le_trans (Nat.le_mul_of_pos_right _ hb0) hbytes
  have hlt := heap_lt hg
  obtain ⟨sa, c, rfl, hnone, hcells⟩ := hrow.src hk hsz
  by_cases hx : xs = []
  · subst hx
    cases sa with
    | none =>
      have hown : w.ownsRow base e k (.slice (some ⟨g, 0, none⟩) 0 0) 0 [] := ⟨by simp, .inr ⟨g, 0, #[], rfl, hbase, hg, Nat.le_refl _, Nat.zero_le _, by simp, by simp⟩⟩
      have hrun := run_append_owned_none (P := P) (w := w) base t ty e i k ht hi _ _ _ hown
      exact ⟨some ⟨g, 0, none⟩, 0, w, hrun, hown, Below.refl _ _, fun g' e => .inr (by cases e; rfl)⟩
    | some sa =>
      have hrun := run_append_room (P := P) w t ty e i ht hi g 0 0 #[] hg sa 0 c [] (by simp) (by simp) (by simp) (by simp) (by simp)
      have hh : (w.setRow g #[]).heap[g]? = some (.cells #[] e (0, 0)) := setRow_heap w g #[] #[] e _ hg
      refine ⟨some ⟨g, 0, none⟩, 0, w.setRow g #[], by simpa using hrun, ⟨by simp, .inr ⟨g, 0, #[], rfl, hbase, hh, Nat.le_refl _, Nat.zero_le _, by simp, by simp⟩⟩, ?_, fun g' e => .inr (by cases e; rfl)⟩
      have hgn : w.grownBy (w.setRow g #[]) none := ⟨rfl, rfl, rfl, by simp, fun k _ _ => by
        by_cases e : k = g
        · subst e; rw [hh, hg]
        · exact setRow_other w g k _ e⟩
      exact grown_below hgn (Nat.le_refl _) (fun g e => by cases e)
  · have hpos : 0 < xs.length := List.length_pos_iff.2 hx
    cases sa with
    | none => exact absurd (List.eq_nil_of_length_eq_zero (hnone rfl).2) hx
    | some sa =>
      have holds : ∀ (j : Nat) (u : Value), ([] : List Value)[j]? = some u → w.cell? ((⟨g, 0, none⟩ : Addr).add j) = some u := fun j u h => by simp at h
      have hr2 := run_append_grow (P := P) w t ty e i z ht hi hz ⟨g, 0, none⟩ 0 0 [] (by simp) holds sa xs.length c (xs.flatMap enc) (by rw [flat_length hk xs, hsize]) (hcells sa rfl) (by omega) (by omega) (growslice_fits (by omega) (by rw [hby]; simpa using hbytes))
      rw [hr] at hr2
      injection hr2 with e1 e2
      refine ⟨ad, cap, w', hr, ho, ?_, fun g' e => .inl ?_⟩
      · rw [e2]
        exact ((Below.refl _ _).drew).alloc (Nat.le_refl _) _
      · rw [e1] at e; cases e; exact Nat.le_refl _
theorem iteT {c A B : Prop} [Decidable c] (hc : c) (h : A) : if c then A else B := by rw [if_pos hc]; exact h
theorem wp_cloneE {α : Type} {P : Program} {w : World} {k : Nat} {enc : α → List Value} (hk : ∀ x, (enc x).length = k) (h1 : ∀ x, ∀ u ∈ enc x, u.oneCell' = true)
    {o : Oper} {a : Act} {K : Act → World → Prop} {Q : Exit → Act → World → Prop} (s x : Operand) (t : TypeId)
    (ho : o.op = .call { callee := .builtin .append, args := #[s, x], argTypes := #[t, t] })
    (e : Nat) (z : Value) (bytes : Nat) (ht : P.underlying t = some (.slice e)) (hinfo : (P.info? e).map (fun i => (i.zero, i.size, i.bytes)) = some (some z, k, bytes)) (hzs : z.cells.size = k) (hsz : 0 < k)
    (base g : Nat) (hs : a.eval s = .slice (some ⟨g, 0, none⟩) 0 0) (hg : w.heap[g]? = some (.cells #[] e (0, 0))) (hbase : base ≤ g) (sv : Value) (xs : List α) (hx : a.eval x = sv) (hrow : Row k enc w sv xs) (hb0 : 0 < bytes) (hbytes : xs.length * bytes ≤ 140737488355328)
    (h : ∀ ad cap w', Own base e k enc w' (.slice ad xs.length cap) xs → Below w.heap.size w w' → (∀ g', (Value.slice ad xs.length cap).ownBlock = some g' → w.heap.size ≤ g' ∨ g' = g) → K (a.put o.dst (.slice ad xs.length cap)) w') :
    Oper.wp P o a w K Q := by
  obtain ⟨ad, cap, w', hr, h2, h3, h4⟩ := run_cloneE (P := P) w hk h1 t o.type e z bytes ht hinfo hzs hsz base g hg hbase sv xs hrow hb0 hbytes
  unfold Oper.wp execOp
  simp only [ho, resolve, invoke, builtin, Sem.run_bind, Sem.run_pure, Result.andThen_ok, List.map_toArray, List.map_cons, List.map_nil, hs, hx, hr]
  exact h ad cap w' h2 h3 h4
end Go.Proofs.Ytobkammimkgnkaa
