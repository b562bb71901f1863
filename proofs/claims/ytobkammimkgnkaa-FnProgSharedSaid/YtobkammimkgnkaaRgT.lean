/- A region that draws its order, one goal for each operation that is told of; the others wait for these, by way of others too (made by gen_rgt.py from XRg). -/
import Derived.Test.YtobkammimkgnkaaG1
namespace Go.Proofs.Ytobkammimkgnkaa
open Go.RowKit
set_option linter.unusedSimpArgs false
set_option linter.unusedVariables false
section
variable {P : Program} {md : Region.Mode} {ops : Array Oper} {Q : Exit → Act → World → Prop} {S : World → Prop} {C : Nat → World → Prop} {R : Bool → World → World → Prop} {a : Act} {F0 : Nat} {rs : List RgOp}

def rgBT (md : Region.Mode) (ops : Array Oper) (listed : Array Bool) (F0 : Nat) (ks : List Nat) (ds : List (List Nat)) : Bool :=
  listed.size == ops.size && apartB ops ks && (ks.all fun i => !listed.getD i true) && decide (ks.length ≤ F0) &&
  ((List.range ops.size).all fun i => listed.getD i true || ks.contains i || match ops[i]? with | none => true | some o => ks.all fun k => o.after.any fun e => Region.binds md e && (e.on == k || ((ks.zip ds).any fun (k', dk) => k' == e.on && dk.contains k))) &&
  ((List.range ops.size).all fun i => match ops[i]? with | none => true | some o => o.after.all fun e => !Region.binds md e || decide (e.on < i)) &&
  ((ks.zip ds).all fun (i, d) => match ops[i]? with | none => false | some o => (o.after.all fun e => !Region.binds md e || listed.getD e.on false || ks.contains e.on) && d.all fun j => o.after.any fun e => Region.binds md e && (e.on == j || ((ks.zip ds).any fun (k, dk) => k == e.on && dk.contains j)))
theorem rg_auxT {listed0 : Array Bool} {X : Nat} (hW : oneB rs = true) (hB : rgBT md ops listed0 F0 (rs.map (·.idx)) (rs.map (·.deps)) = true)
    (hG : RgGoals P ops Q S C R a F0 rs (rs.map (·.idx)) rs)
    (hE : ∀ u w, C X w → FAll rs u w (rs.map (·.idx)) → wpAnyH P md ops Q S X (listAll listed0 (rs.map (·.idx))) (putAll ops a u (rs.map (·.idx))) w) :
    ∀ (fuel : Nat) (listed : Array Bool) (u : Nat → Value) (w : World), fuel ≤ F0 → listed.size = ops.size →
      (∀ i, i ∉ rs.map (·.idx) → listed[i]? = listed0[i]?) → fuel = X + ((rs.map (·.idx)).filter fun i => !listed.getD i true).length →
      (∀ i, listed0.getD i false = true → listed.getD i false = true) →
      (∀ k ∈ rs, listed.getD k.idx true = true → ∀ j ∈ k.deps, listed.getD j false = true) → C fuel w → (∀ k ∈ rs, listed.getD k.idx true = true → k.holds u w) →
      wpAnyH P md ops Q S fuel listed (putAll ops a u (rs.map (·.idx))) w := by
  simp only [rgBT, Bool.and_eq_true, List.all_eq_true, List.mem_range, beq_iff_eq] at hB
  obtain ⟨⟨⟨⟨⟨⟨hsz0, hap⟩, _⟩, _⟩, hrest⟩, hback0⟩, hdeps0⟩ := hB
  have hnd := apart_nodup ops hap
  have hback : ∀ i o, ops[i]? = some o → ∀ e ∈ o.after, Region.binds md e = true → e.on < i := by
    intro i o ho e he hb
    have h1 := hback0 i (Array.getElem?_eq_some_iff.1 ho).1
    rw [ho] at h1
    have h2 := Array.all_eq_true_iff_forall_mem.1 h1 e he
    simpa [hb] using h2
  rw [zip_maps] at hdeps0 hrest
  have hedges : ∀ r ∈ rs, ∃ o, ops[r.idx]? = some o ∧ (∀ e ∈ o.after, Region.binds md e = true → listed0.getD e.on false = true ∨ e.on ∈ rs.map (·.idx)) ∧
      ∀ j ∈ r.deps, ∃ e ∈ o.after, Region.binds md e = true ∧ (e.on = j ∨ ∃ k ∈ rs, k.idx = e.on ∧ j ∈ k.deps) := by
    intro r hr
    have h1 := hdeps0 (r.idx, r.deps) (List.mem_map_of_mem hr)
    cases ho : ops[r.idx]? with
    | none => simp [ho] at h1
    | some o =>
      simp only [ho, Bool.and_eq_true, List.all_eq_true] at h1
      refine ⟨o, rfl, fun e he hb => ?_, fun j hj => ?_⟩
      · have h2 := Array.all_eq_true_iff_forall_mem.1 h1.1 e he
        simp only [hb, Bool.not_true, Bool.false_or, Bool.or_eq_true, List.contains_eq_mem, decide_eq_true_eq] at h2
        exact h2
      · obtain ⟨e, he, h3⟩ := Array.any_eq_true'.1 (h1.2 j hj)
        simp only [Bool.and_eq_true, Bool.or_eq_true, beq_iff_eq, List.any_eq_true, List.mem_map, List.contains_eq_mem, decide_eq_true_eq] at h3
        refine ⟨e, he, h3.1, ?_⟩
        rcases h3.2 with h4 | ⟨x, ⟨k, hk, rfl⟩, h5, h6⟩
        · exact .inl h4
        · exact .inr ⟨k, hk, h5, h6⟩
  -- where all that is told of has come up
  have hend : ∀ (fuel : Nat) (listed : Array Bool) (u : Nat → Value) (w : World), listed.size = ops.size → (∀ i, i ∉ rs.map (·.idx) → listed[i]? = listed0[i]?) →
      fuel = X + ((rs.map (·.idx)).filter fun i => !listed.getD i true).length → (∀ k ∈ rs, listed.getD k.idx true = true) → C fuel w → (∀ k ∈ rs, listed.getD k.idx true = true → k.holds u w) →
      wpAnyH P md ops Q S fuel listed (putAll ops a u (rs.map (·.idx))) w := by
    intro fuel listed u w hsz hoff hfu hall hC hF
    have h0 : ((rs.map (·.idx)).filter fun i => !listed.getD i true) = [] := by
      rw [List.filter_eq_nil_iff]
      intro i hi
      obtain ⟨k, hk, rfl⟩ := List.mem_map.1 hi
      simp [hall k hk]
    have hfx : fuel = X := by rw [hfu, h0]; rfl
    subst hfx
    have hl : listed = listAll listed0 (rs.map (·.idx)) := by
      apply Array.ext_getElem?
      intro i
      rw [listAll_get]
      by_cases hi : i ∈ rs.map (·.idx)
      · by_cases hlt : i < listed0.size
        · rw [if_pos ⟨hi, hlt⟩]
          obtain ⟨k, hk, rfl⟩ := List.mem_map.1 hi
          have h1 := hall k hk
          have h2 : k.idx < listed.size := by omega
          rw [Array.getElem?_eq_getElem h2]
          simpa [h2] using h1
        · rw [if_neg (fun h => hlt h.2), Array.getElem?_eq_none (by omega), Array.getElem?_eq_none (by omega)]
      · rw [if_neg (fun h => hi h.1)]; exact hoff i hi
    rw [hl]
    exact hE u w hC (FAll.at_ fun k _ => FAt.of fun i hi _ => hF i hi (hall i hi))
  intro fuel
  induction fuel with
  | zero =>
    intro listed u w hf hsz hoff hfu _ hcl hC hF
    refine hend 0 listed u w hsz hoff hfu (fun k hk => ?_) hC hF
    cases hl : listed.getD k.idx true with
    | true => rfl
    | false =>
      have hz : ((rs.map (·.idx)).filter fun i => !listed.getD i true).length = 0 := by omega
      have : k.idx ∈ (rs.map (·.idx)).filter fun i => !listed.getD i true := List.mem_filter.2 ⟨List.mem_map_of_mem hk, by rw [hl]; rfl⟩
      rw [List.eq_nil_of_length_eq_zero hz] at this
      cases this
  | succ fuel ih =>
    intro listed u w hf hsz hoff hfu hmono hcl hC hF
    by_cases hall : ∀ k ∈ rs, listed.getD k.idx true = true
    · exact hend (fuel + 1) listed u w hsz hoff hfu hall hC hF
    -- what may come up is told of
    have hready : ∀ i ∈ Region.ready md ops listed, i ∈ rs.map (·.idx) := by
      intro i hi
      obtain ⟨hiun, o, ho, hedge⟩ := mem_ready.1 hi
      refine Classical.byContradiction fun hni => ?_
      have hilt := (Array.getElem?_eq_some_iff.1 ho).1
      have h1 := hrest i hilt
      have h2 : listed0.getD i true = false := by
        have h2 := hoff i hni
        have : i < listed.size := by omega
        have h3 : i < listed0.size := by omega
        simp only [Array.getD_eq_getD_getElem?, ← h2] at hiun ⊢
        exact hiun
      have h3 : (rs.map (·.idx)).contains i = false := by simpa using hni
      simp only [h2, h3, Bool.false_or, ho, List.all_eq_true] at h1
      refine hall fun k hk => ?_
      obtain ⟨e, he, h4⟩ := Array.any_eq_true'.1 (h1 k.idx (List.mem_map_of_mem hk))
      simp only [Bool.and_eq_true, Bool.or_eq_true, beq_iff_eq, List.any_eq_true, List.mem_map, List.contains_eq_mem, decide_eq_true_eq] at h4
      have h5 := hedge e he h4.1
      rcases h4.2 with h6 | ⟨x, ⟨k', hk', rfl⟩, h7, h8⟩
      · rw [h6] at h5
        exact getD_false_true h5
      · exact getD_false_true (hcl k' hk' (by rw [show k'.idx = e.on from h7]; exact getD_false_true h5) k.idx h8)
    refine ⟨fun h0 => ?_, fun i hi => ?_⟩
    · -- the first that has not come up may come up
      exfalso
      have : ∀ n, ∀ k ∈ rs, k.idx = n → listed.getD k.idx true = true := by
        intro n
        induction n using Nat.strongRecOn with
        | _ n ihn =>
          intro k hk hkn
          cases hl : listed.getD k.idx true with
          | true => rfl
          | false =>
            obtain ⟨o, ho, he, _⟩ := hedges k hk
            have : k.idx ∈ Region.ready md ops listed := mem_ready.2 ⟨hl, o, ho, fun e hee hb => by
              rcases he e hee hb with h | h
              · exact hmono _ h
              · obtain ⟨k', hk', e'⟩ := List.mem_map.1 h
                have hlt := hback k.idx o ho e hee hb
                have h5 := ihn k'.idx (by omega) k' hk' rfl
                rw [e'] at h5
                have h6 : k.idx < ops.size := (Array.getElem?_eq_some_iff.1 ho).1
                have h7 : e.on < listed.size := by omega
                simpa [h7] using h5⟩
            rw [h0] at this
            cases this
      exact hall fun k hk => this k.idx k hk rfl
    · obtain ⟨hiun, o, ho, hedge⟩ := mem_ready.1 hi
      have hilt := (Array.getElem?_eq_some_iff.1 ho).1
      obtain ⟨r, hr, hri⟩ := List.mem_map.1 (hready i hi)
      subst hri
      have hdl : ∀ k ∈ rs, k.idx = r.idx → ∀ j ∈ k.deps, listed.getD j false = true := by
        intro k hk hki j hj
        obtain ⟨o', ho', _, hd⟩ := hedges k hk
        rw [hki, ho] at ho'
        cases ho'
        obtain ⟨e, he, hb, h⟩ := hd j hj
        have hle := hedge e he hb
        rcases h with h | ⟨k', hk', h1, h2⟩
        · rw [← h]; exact hle
        · exact hcl k' hk' (by rw [h1]; exact getD_false_true hle) j h2
      obtain ⟨_, o', ho', H⟩ := hG.mem hr
      rw [ho] at ho'
      cases ho'
      have hset : (listed.setIfInBounds r.idx true).getD r.idx true = true := by
        have : r.idx < listed.size := by omega
        simp [this]
      have hback1 : ∀ k, (listed.setIfInBounds r.idx true).getD k true = true → k ≠ r.idx → listed.getD k true = true := fun k h hne => by
        rw [getD_set_ne true (Ne.symm hne)] at h; exact h
      refine wpOp_step ho fun K' hK => H fuel u w (by omega) hC (FAll.at_ fun j hj => FAt.of fun k hk e => hF k hk (by rw [e]; exact getD_false_true (hdl r hr rfl j hj))) K' ?_
      intro v w' hS' hC' hR' hF'
      refine hK _ _ ⟨hS', ?_⟩
      have hd : o.dst = dstOf ops r.idx := by simp [dstOf, ho]
      rw [hd, putAll_put ops a u r.idx v _ hap (List.mem_map_of_mem hr)]
      refine ih _ _ _ (by omega) (by simpa using hsz) ?_ ?_ ?_ ?_ hC' ?_
      · intro j hj
        rw [Array.getElem?_setIfInBounds_ne (fun e => hj (by rw [← e]; exact List.mem_map_of_mem hr))]
        exact hoff j hj
      · have := filter_less (p := fun i => !listed.getD i true) (q := fun i => !(listed.setIfInBounds r.idx true).getD i true) (i := r.idx) (l := rs.map (·.idx))
          (fun x hx => by rw [getD_set_ne true (Ne.symm hx)]) hnd (List.mem_map_of_mem hr) (by rw [hiun]; rfl) (by rw [hset]; rfl)
        omega
      · intro j hj; exact getD_set_true (hmono j hj)
      · intro k hk hkl j hj
        by_cases e : k.idx = r.idx
        · exact getD_set_true (hdl k hk e j hj)
        · exact getD_set_true (hcl k hk (hback1 _ hkl e) j hj)
      · intro k hk hkl
        by_cases e : k.idx = r.idx
        · have := apart_inj ops hap hk hr e
          subst this
          show k.F (mask k.deps (setU u k.idx v)) (setU u k.idx v k.idx) w'
          rw [setU_same, mask_setU (fun h => getD_true_false hiun (hdl k hk rfl _ h))]
          exact hF'
        · have h0 := hback1 _ hkl e
          show k.F (mask k.deps (setU u r.idx v)) (setU u r.idx v k.idx) w'
          rw [setU_ne u v e, mask_setU (fun h => getD_true_false hiun (hcl k hk h0 _ h))]
          cases hrw : r.wr with
          | false => rw [hrw] at hR'; exact (hG.mem hk).1.1 _ _ _ _ hR' (hF k hk h0)
          | true => rw [hrw] at hR'; exact (hG.mem hk).1.2 (oneB_spec hW hr hk hrw e) _ _ _ _ hR' (hF k hk h0)

/-- **The region, operation by operation, up to those that wait for all of these.** -/
theorem wpAnyH_rgT {w : World} {fuel : Nat} {listed : Array Bool} (rs : List RgOp) (C : Nat → World → Prop) (R : Bool → World → World → Prop)
    (hW : oneB rs = true) (hB : rgBT md ops listed fuel (rs.map (·.idx)) (rs.map (·.deps)) = true) (hC : C fuel w) (hG : RgGoals P ops Q S C R a fuel rs (rs.map (·.idx)) rs)
    (hE : ∀ u w, C (fuel - rs.length) w → FAll rs u w (rs.map (·.idx)) → wpAnyH P md ops Q S (fuel - rs.length) (listAll listed (rs.map (·.idx))) (putAll ops a u (rs.map (·.idx))) w) : wpAnyH P md ops Q S fuel listed a w := by
  have h0 := hB
  simp only [rgBT, Bool.and_eq_true, List.all_eq_true, List.mem_range, beq_iff_eq] at h0
  obtain ⟨⟨⟨⟨⟨⟨hsz, _⟩, hun⟩, hlen⟩, _⟩, _⟩, _⟩ := h0
  have hun' : ∀ k ∈ rs, listed.getD k.idx true = false := fun k hk => by
    have := hun k.idx (List.mem_map_of_mem hk)
    simpa using this
  have hlen' : rs.length ≤ fuel := by simpa using hlen
  have hfl : ((rs.map (·.idx)).filter fun i => !listed.getD i true).length = rs.length := by
    rw [List.filter_eq_self.2]
    · simp
    · intro i hi
      obtain ⟨k, hk, rfl⟩ := List.mem_map.1 hi
      rw [hun' k hk]; rfl
  have h1 := rg_auxT hW hB hG hE fuel listed (slotVal ops a) w (Nat.le_refl _) hsz (fun _ _ => rfl) (by rw [hfl]; omega) (fun _ h => h)
    (fun k hk hl => by rw [hun' k hk] at hl; cases hl) hC (fun k hk hl => by rw [hun' k hk] at hl; cases hl)
  rw [putAll_self] at h1
  exact h1
/-- The same, from the region's beginning. -/
theorem wp_region_rgT {id : Nat} {w : World} (rs : List RgOp) (C : Nat → World → Prop) (R : Bool → World → World → Prop) (hm : P.follows .mixedOrders = true) (hW : oneB rs = true)
    (hB : rgBT .any ops (Array.replicate ops.size false) ops.size (rs.map (·.idx)) (rs.map (·.deps)) = true) (hC : C ops.size w.drew)
    (hG : RgGoals P ops Q (fun _ => True) C R a ops.size rs (rs.map (·.idx)) rs)
    (hE : ∀ u w, C (ops.size - rs.length) w → FAll rs u w (rs.map (·.idx)) → wpAnyH P .any ops Q (fun _ => True) (ops.size - rs.length) (listAll (Array.replicate ops.size false) (rs.map (·.idx))) (putAll ops a u (rs.map (·.idx))) w) :
    (Code.region id ops true).wp P Q a w :=
  wp_region_held_drew (S := fun _ => True) hm trivial fun _ => wpAnyH_rgT rs C R hW hB hC hG hE

/-- **A region that draws its order, operation by operation**, up to those that wait for all of these. -/
theorem wp_region_T {id : Nat} {w : World} (rs : List RgOp) (ds : List (Nat × Option Tmp)) (C : Nat → World → Prop) (R : Bool → World → World → Prop) (hm : P.follows .mixedOrders = true) (hW : oneB rs = true)
    (hB : rgBT .any ops (Array.replicate ops.size false) ops.size (rs.map (·.idx)) (rs.map (·.deps)) = true) (hD : dsB ops ds (rs.map (·.idx)) = true) (hC : C ops.size w.drew)
    (hG : GoalsL P ops Q C R a ops.size rs ds rs)
    (hE : ∀ u w, C (ops.size - rs.length) w → FAll rs u w (rs.map (·.idx)) → Closed (wpAnyH P .any ops Q (fun _ => True) (ops.size - rs.length) (listAll (Array.replicate ops.size false) (rs.map (·.idx))) (putL a u ds) w)) :
    (Code.region id ops true).wp P Q a w := by
  simp only [dsB, Bool.and_eq_true, List.all_eq_true, beq_iff_eq] at hD
  have hd : ∀ u, putL a u ds = putAll ops a u (rs.map (·.idx)) := fun u => by
    rw [← hD.1]; exact putL_eq fun x hx => hD.2 x hx
  exact wp_region_rgT rs C R hm hW hB hC (hG.goals hd) fun u w hC' hF => by have := (hE u w hC' hF).out; rw [hd] at this; exact this
end
end Go.Proofs.Ytobkammimkgnkaa
