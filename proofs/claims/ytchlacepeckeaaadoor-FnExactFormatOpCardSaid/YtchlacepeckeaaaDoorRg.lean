/- A region that draws its order: one goal for each operation (not one for each order). -/
import Derived.Test.YtchlacepeckeaaaDoorRows
import Derived.Deep.RegionHeld3
import Derived.Lib.Hide
namespace Go.Proofs.YtchlacepeckeaaaDoor
open Go.RowKit
set_option linter.unusedSimpArgs false
set_option linter.unusedVariables false

/-- The value of number i is v now. -/
def setU (u : Nat → Value) (i : Nat) (v : Value) : Nat → Value := fun j => if j = i then v else u j
theorem setU_same (u : Nat → Value) (i : Nat) (v : Value) : setU u i v i = v := if_pos rfl
theorem setU_ne (u : Nat → Value) {i j : Nat} (v : Value) (h : j ≠ i) : setU u i v j = u j := if_neg h
/-- Only the values of the numbers ds. -/
def mask (ds : List Nat) (u : Nat → Value) : Nat → Value := fun j => if j ∈ ds then u j else undef
theorem mask_setU {ds : List Nat} {u : Nat → Value} {i : Nat} {v : Value} (h : i ∉ ds) : mask ds (setU u i v) = mask ds u := by
  funext j
  unfold mask
  split
  · rename_i hj; exact setU_ne u v (fun e => h (e ▸ hj))
  · rfl

/-- The slot that operation number i writes. -/
def dstOf (ops : Array Oper) (i : Nat) : Option Tmp := (ops[i]?).bind (·.dst)
/-- The frame in which the operations of the list have left the values u. -/
def putAll (ops : Array Oper) (a : Act) (u : Nat → Value) : List Nat → Act
  | [] => a
  | i :: r => (putAll ops a u r).put (dstOf ops i) (u i)
/-- What the slot of number i holds. -/
def slotVal (ops : Array Oper) (a : Act) (i : Nat) : Value :=
  match dstOf ops i with
  | some t => a.tmps.getD t undef
  | none => undef

theorem put_self (a : Act) (d : Option Tmp) : a.put d (match d with | some t => a.tmps.getD t undef | none => undef) = a := by
  cases d with
  | none => rfl
  | some t =>
    show ({ a with tmps := a.tmps.setIfInBounds t (a.tmps.getD t undef) } : Act) = a
    have : a.tmps.setIfInBounds t (a.tmps.getD t undef) = a.tmps := by
      apply Array.ext_getElem?
      intro j
      rw [Array.getElem?_setIfInBounds]
      by_cases h : t = j
      · subst h
        by_cases hl : t < a.tmps.size
        · simp [hl]
        · simp [hl]
      · simp [h]
    rw [this]
theorem putAll_self (ops : Array Oper) (a : Act) : ∀ l, putAll ops a (slotVal ops a) l = a
  | [] => rfl
  | i :: r => by
    show (putAll ops a (slotVal ops a) r).put (dstOf ops i) (slotVal ops a i) = a
    rw [putAll_self ops a r]
    exact put_self a (dstOf ops i)
theorem putAll_off (ops : Array Oper) (a : Act) (u : Nat → Value) (i : Nat) (v : Value) : ∀ l, i ∉ l → putAll ops a (setU u i v) l = putAll ops a u l
  | [], _ => rfl
  | j :: r, h => by
    have h1 : j ≠ i := fun e => h (by rw [e]; exact List.mem_cons_self)
    have h2 : i ∉ r := fun e => h (List.mem_cons_of_mem _ e)
    show (putAll ops a (setU u i v) r).put (dstOf ops j) (setU u i v j) = (putAll ops a u r).put (dstOf ops j) (u j)
    rw [putAll_off ops a u i v r h2, setU_ne u v h1]
theorem put_put (a : Act) (d : Option Tmp) (x y : Value) : (a.put d x).put d y = a.put d y := by
  cases d with
  | none => rfl
  | some t =>
    show ({ a with tmps := (a.tmps.setIfInBounds t x).setIfInBounds t y } : Act) = { a with tmps := a.tmps.setIfInBounds t y }
    have : (a.tmps.setIfInBounds t x).setIfInBounds t y = a.tmps.setIfInBounds t y := by
      apply Array.ext_getElem?
      intro j
      simp only [Array.getElem?_setIfInBounds]
      by_cases h : t = j <;> simp [h]
    rw [this]
/-- The operations' slots differ. -/
def apartB (ops : Array Oper) : List Nat → Bool
  | [] => true
  | i :: r => (r.all fun j => j != i && (dstOf ops i == none || dstOf ops j != dstOf ops i)) && apartB ops r
theorem putAll_put (ops : Array Oper) (a : Act) (u : Nat → Value) (i : Nat) (v : Value) : ∀ l, apartB ops l = true → i ∈ l → (putAll ops a u l).put (dstOf ops i) v = putAll ops a (setU u i v) l
  | [], _, h => by cases h
  | j :: r, hd, h => by
    simp only [apartB, Bool.and_eq_true, List.all_eq_true, Bool.or_eq_true, beq_iff_eq, bne_iff_ne, ne_eq] at hd
    show ((putAll ops a u r).put (dstOf ops j) (u j)).put (dstOf ops i) v = (putAll ops a (setU u i v) r).put (dstOf ops j) (setU u i v j)
    rcases List.mem_cons.1 h with rfl | h'
    · rw [put_put, setU_same, putAll_off ops a u i v r (fun e => (hd.1 i e).1 rfl)]
    · have hne := (hd.1 i h').1
      have hap := (hd.1 i h').2
      rw [setU_ne u v (fun e => hne e.symm), ← putAll_put ops a u i v r hd.2 h']
      rcases hap with h0 | h0
      · rw [h0]; rfl
      · exact Act.put_comm _ _ _ (by intro d h1 h2; exact h0 (by rw [h1, h2]))

/-- What is told of one operation: its number, the earlier ones that it leans on, what holds of its value (u: those earlier ones' values). -/
structure RgOp where
  idx : Nat
  /-- it writes into what the region made (one at the most) -/
  wr : Bool
  deps : List Nat
  F : (Nat → Value) → Value → World → Prop

def RgOp.holds (i : RgOp) (u : Nat → Value) (w : World) : Prop := i.F (mask i.deps u) (u i.idx) w

/-- What holds of number k. -/
def FAt (rs : List RgOp) (k : Nat) (u : Nat → Value) (w : World) : Prop :=
  match rs with
  | [] => True
  | i :: r => if i.idx = k then i.holds u w else FAt r k u w
def FAll (rs : List RgOp) (u : Nat → Value) (w : World) : List Nat → Prop
  | [] => True
  | k :: r => FAt rs k u w ∧ FAll rs u w r

section
variable {P : Program} {md : Region.Mode} {ops : Array Oper} {Q : Exit → Act → World → Prop} {S : World → Prop} {C : Nat → World → Prop} {R : Bool → World → World → Prop} {a : Act} {F0 : Nat} {rs : List RgOp}

def depsOf (rs : List RgOp) (k : Nat) : List Nat :=
  match rs with
  | [] => []
  | i :: r => if i.idx = k then i.deps else depsOf r k
/-- The shape of the region: what is not told of waits for all that is; the slots differ; edges go backwards; what is leant on has come up. -/
def oneB (rs : List RgOp) : Bool := (rs.filter (·.wr)).length ≤ 1
theorem oneB_spec {rs : List RgOp} (h : oneB rs = true) {i k : RgOp} (hi : i ∈ rs) (hk : k ∈ rs) (hw : i.wr = true) (hne : k.idx ≠ i.idx) : k.wr = false := by
  cases hkw : k.wr with
  | false => rfl
  | true =>
    have h1 : i ∈ rs.filter (·.wr) := List.mem_filter.2 ⟨hi, hw⟩
    have h2 : k ∈ rs.filter (·.wr) := List.mem_filter.2 ⟨hk, hkw⟩
    have h3 : (rs.filter (·.wr)).length ≤ 1 := by simpa [oneB] using h
    match hl : rs.filter (·.wr), h1, h2, h3 with
    | [x], h1, h2, _ =>
      rw [hl] at h1 h2
      simp only [List.mem_singleton] at h1 h2
      rw [h1, h2] at hne
      exact absurd rfl hne
    | x :: y :: r, _, _, h3 => rw [hl] at h3; simp at h3
    | [], h1, _, _ => rw [hl] at h1; cases h1
def rgB (md : Region.Mode) (ops : Array Oper) (listed : Array Bool) (F0 : Nat) (ks : List Nat) (ds : List (List Nat)) : Bool :=
  listed.size == ops.size && apartB ops ks && (ks.all fun i => !listed.getD i true) && decide (ks.length ≤ F0) &&
  ((List.range ops.size).all fun i => listed.getD i true || ks.contains i || match ops[i]? with | none => true | some o => ks.all fun k => o.after.any fun e => Region.binds md e && e.on == k) &&
  ((List.range ops.size).all fun i => match ops[i]? with | none => true | some o => o.after.all fun e => !Region.binds md e || decide (e.on < i)) &&
  ((ks.zip ds).all fun (i, d) => match ops[i]? with | none => false | some o => (o.after.all fun e => !Region.binds md e || listed.getD e.on false || ks.contains e.on) && d.all fun j => o.after.any fun e => Region.binds md e && (e.on == j || ((ks.zip ds).any fun (k, dk) => k == e.on && dk.contains j)))
/-- The operations of the list have come up. -/
def listAll (listed : Array Bool) : List Nat → Array Bool
  | [] => listed
  | k :: r => (listAll listed r).setIfInBounds k true
theorem listAll_size (listed : Array Bool) : ∀ ks, (listAll listed ks).size = listed.size
  | [] => rfl
  | k :: r => by simp [listAll, listAll_size listed r]
theorem listAll_get (listed : Array Bool) (i : Nat) : ∀ ks, (listAll listed ks)[i]? = if i ∈ ks ∧ i < listed.size then some true else listed[i]?
  | [] => by simp [listAll]
  | k :: r => by
    show ((listAll listed r).setIfInBounds k true)[i]? = _
    rw [Array.getElem?_setIfInBounds, listAll_get listed i r, listAll_size]
    by_cases h : k = i
    · subst h
      by_cases hl : k < listed.size
      · simp [hl]
      · simp [hl]
    · have h' : ¬ i = k := fun e => h e.symm
      simp [h, h']

/-- The goal of one operation. -/
def RgGoal (P : Program) (ops : Array Oper) (Q : Exit → Act → World → Prop) (S : World → Prop) (C : Nat → World → Prop) (R : Bool → World → World → Prop) (a : Act) (F0 : Nat) (rs : List RgOp) (ks : List Nat) (i : RgOp) : Prop :=
  ((∀ u v w w', R false w w' → i.F u v w → i.F u v w') ∧ (i.wr = false → ∀ u v w w', R true w w' → i.F u v w → i.F u v w')) ∧
  ∃ o, ops[i.idx]? = some o ∧ ∀ f u w, f < F0 → C (f + 1) w → FAll rs u w i.deps → ∀ K : Act → World → Prop,
    Shut (∀ v w', S w' → C f w' → R i.wr w w' → i.F (mask i.deps u) v w' → K ((putAll ops a u ks).put o.dst v) w') →
    if Region.wanted o (yielded ops (putAll ops a u ks).tmps) = true then Oper.wp P o (putAll ops a u ks) w K Q else K ((putAll ops a u ks).put o.dst undef) w

def RgGoals (P : Program) (ops : Array Oper) (Q : Exit → Act → World → Prop) (S : World → Prop) (C : Nat → World → Prop) (R : Bool → World → World → Prop) (a : Act) (F0 : Nat) (rs : List RgOp) (ks : List Nat) : List RgOp → Prop
  | [] => True
  | i :: r => RgGoal P ops Q S C R a F0 rs ks i ∧ RgGoals P ops Q S C R a F0 rs ks r

theorem FAll.at_ {u : Nat → Value} {w : World} : ∀ {l : List Nat}, (∀ k ∈ l, FAt rs k u w) → FAll rs u w l
  | [], _ => trivial
  | k :: _, h => ⟨h k List.mem_cons_self, FAll.at_ fun j hj => h j (List.mem_cons_of_mem _ hj)⟩

theorem FAt.mono {k : Nat} {u u' : Nat → Value} {w w' : World} : ∀ {rs : List RgOp}, (∀ i ∈ rs, i.idx = k → i.holds u w → i.holds u' w') → FAt rs k u w → FAt rs k u' w'
  | [], _, _ => trivial
  | i :: r, h, h1 => by
    unfold FAt at *
    split
    · rename_i e; rw [if_pos e] at h1; exact h i List.mem_cons_self e h1
    · rename_i e; rw [if_neg e] at h1; exact FAt.mono (fun j hj => h j (List.mem_cons_of_mem _ hj)) h1
theorem FAt.of {k : Nat} {u : Nat → Value} {w : World} : ∀ {rs : List RgOp}, (∀ i ∈ rs, i.idx = k → i.holds u w) → FAt rs k u w
  | [], _ => trivial
  | i :: r, h => by
    unfold FAt
    split
    · rename_i e; exact h i List.mem_cons_self e
    · exact FAt.of (fun j hj => h j (List.mem_cons_of_mem _ hj))
theorem RgGoals.mem {ks : List Nat} {i : RgOp} : ∀ {l : List RgOp}, RgGoals P ops Q S C R a F0 rs ks l → i ∈ l → RgGoal P ops Q S C R a F0 rs ks i
  | [], _, h => by cases h
  | j :: r, h, hi => by
    rcases List.mem_cons.1 hi with rfl | hi
    · exact h.1
    · exact h.2.mem hi

theorem filter_less {p q : Nat → Bool} {i : Nat} (h : ∀ x, x ≠ i → q x = p x) : ∀ {l : List Nat}, l.Nodup → i ∈ l → p i = true → q i = false → (l.filter p).length = (l.filter q).length + 1
  | [], _, h1, _, _ => by cases h1
  | j :: r, hn, h1, h2, h3 => by
    obtain ⟨hj, hn'⟩ := List.nodup_cons.1 hn
    rcases List.mem_cons.1 h1 with rfl | h1
    · have : r.filter q = r.filter p := List.filter_congr fun x hx => h x (fun e => hj (e ▸ hx))
      simp only [List.filter_cons, h2, h3, if_true, List.length_cons, Bool.false_eq_true, if_false, this]
    · have ih := filter_less h hn' h1 h2 h3
      have hq := h j (fun e => hj (e ▸ h1))
      simp only [List.filter_cons, hq]
      split
      · rw [List.length_cons, List.length_cons, ih]
      · exact ih
theorem apart_nodup (ops : Array Oper) : ∀ {l : List Nat}, apartB ops l = true → l.Nodup
  | [], _ => List.nodup_nil
  | x :: t, hd => by
    simp only [apartB, Bool.and_eq_true, List.all_eq_true, bne_iff_ne, ne_eq] at hd
    exact List.nodup_cons.2 ⟨fun h => (hd.1 x h).1 rfl, apart_nodup ops hd.2⟩

theorem ready_none {listed : Array Bool} (hsz : listed.size = ops.size) (hback : ∀ i o, ops[i]? = some o → ∀ e ∈ o.after, Region.binds md e = true → e.on < i) (h : Region.ready md ops listed = []) :
    ∀ i, i < ops.size → listed.getD i true = true := by
  intro i
  induction i using Nat.strongRecOn with
  | _ i ih =>
    intro hi
    cases hl : listed.getD i true with
    | true => rfl
    | false =>
      have ho : ops[i]? = some ops[i] := Array.getElem?_eq_getElem hi
      have : i ∈ Region.ready md ops listed := mem_ready.2 ⟨hl, _, ho, fun e he hb => by
        have h1 := hback i _ ho e he hb
        have h2 := ih e.on h1 (by omega)
        have h3 : e.on < listed.size := by omega
        simpa [h3] using h2⟩
      rw [h] at this
      cases this
theorem apart_inj {k r : RgOp} (ops : Array Oper) : ∀ {l : List RgOp}, apartB ops (l.map (·.idx)) = true → k ∈ l → r ∈ l → k.idx = r.idx → k = r
  | [], _, h, _, _ => by cases h
  | x :: t, hd, h1, h2, e => by
    simp only [List.map_cons, apartB, Bool.and_eq_true, List.all_eq_true, bne_iff_ne, ne_eq] at hd
    rcases List.mem_cons.1 h1 with h3 | h3 <;> rcases List.mem_cons.1 h2 with h4 | h4
    · rw [h3, h4]
    · subst h3; exact absurd e.symm (hd.1 _ (List.mem_map.2 ⟨_, h4, rfl⟩)).1
    · subst h4; exact absurd e (hd.1 _ (List.mem_map.2 ⟨_, h3, rfl⟩)).1
    · exact apart_inj ops hd.2 h3 h4 e
theorem getD_false_true {l : Array Bool} {i : Nat} (h : l.getD i false = true) : l.getD i true = true := by
  rcases Nat.lt_or_ge i l.size with h' | h'
  · simpa [h'] using h
  · simp [Array.getElem?_eq_none h'] at h
theorem getD_true_false {l : Array Bool} {i : Nat} (h : l.getD i true = false) : l.getD i false ≠ true := fun e => by
  rw [getD_false_true e] at h; cases h

theorem zip_maps : ∀ rs : List RgOp, (rs.map (·.idx)).zip (rs.map (·.deps)) = rs.map fun r => (r.idx, r.deps)
  | [] => rfl
  | x :: t => by simp [zip_maps t]
theorem rg_aux {listed0 : Array Bool} {X : Nat} (hW : oneB rs = true) (hB : rgB md ops listed0 F0 (rs.map (·.idx)) (rs.map (·.deps)) = true)
    (hG : RgGoals P ops Q S C R a F0 rs (rs.map (·.idx)) rs)
    (hE : ∀ u w, C X w → FAll rs u w (rs.map (·.idx)) → wpAnyH P md ops Q S X (listAll listed0 (rs.map (·.idx))) (putAll ops a u (rs.map (·.idx))) w) :
    ∀ (fuel : Nat) (listed : Array Bool) (u : Nat → Value) (w : World), fuel ≤ F0 → listed.size = ops.size →
      (∀ i, i ∉ rs.map (·.idx) → listed[i]? = listed0[i]?) → fuel = X + ((rs.map (·.idx)).filter fun i => !listed.getD i true).length →
      (∀ i, listed0.getD i false = true → listed.getD i false = true) →
      (∀ k ∈ rs, listed.getD k.idx true = true → ∀ j ∈ k.deps, listed.getD j false = true) → C fuel w → (∀ k ∈ rs, listed.getD k.idx true = true → k.holds u w) →
      wpAnyH P md ops Q S fuel listed (putAll ops a u (rs.map (·.idx))) w := by
  simp only [rgB, Bool.and_eq_true, List.all_eq_true, List.mem_range, beq_iff_eq] at hB
  obtain ⟨⟨⟨⟨⟨⟨hsz0, hap⟩, _⟩, _⟩, hrest⟩, hback0⟩, hdeps0⟩ := hB
  have hnd := apart_nodup ops hap
  have hback : ∀ i o, ops[i]? = some o → ∀ e ∈ o.after, Region.binds md e = true → e.on < i := by
    intro i o ho e he hb
    have h1 := hback0 i (Array.getElem?_eq_some_iff.1 ho).1
    rw [ho] at h1
    have h2 := Array.all_eq_true_iff_forall_mem.1 h1 e he
    simpa [hb] using h2
  rw [zip_maps] at hdeps0
  have hedges : ∀ r ∈ rs, ∃ o, ops[r.idx]? = some o ∧ (∀ e ∈ o.after, Region.binds md e = true → listed0.getD e.on false = true ∨ e.on ∈ rs.map (·.idx)) ∧
      ∀ j ∈ r.deps, ∃ e ∈ o.after, Region.binds md e = true ∧ (e.on = j ∨ ∃ k ∈ rs, k.idx = e.on ∧ j ∈ k.deps) := by
    intro r hr
    have h1 := hdeps0 (r.idx, r.deps) (List.mem_map_of_mem hr)
    cases ho : ops[r.idx]? with
    | none => simp [ho] at h1
    | some o =>
      simp only [ho, Bool.and_eq_true, List.all_eq_true] at h1
      refine ⟨o, rfl, fun e he hb => ?_, fun j hj => ?_⟩
      · have h2 := Array.all_eq_true_iff_forall_mem.1 h1.1 e he
        simp only [hb, Bool.not_true, Bool.false_or, Bool.or_eq_true, List.contains_eq_mem, decide_eq_true_eq] at h2
        exact h2
      · obtain ⟨e, he, h3⟩ := Array.any_eq_true'.1 (h1.2 j hj)
        simp only [Bool.and_eq_true, Bool.or_eq_true, beq_iff_eq, List.any_eq_true, List.mem_map, List.contains_eq_mem, decide_eq_true_eq] at h3
        refine ⟨e, he, h3.1, ?_⟩
        rcases h3.2 with h4 | ⟨x, ⟨k, hk, rfl⟩, h5, h6⟩
        · exact .inl h4
        · exact .inr ⟨k, hk, h5, h6⟩
  -- where all that is told of has come up
  have hend : ∀ (fuel : Nat) (listed : Array Bool) (u : Nat → Value) (w : World), listed.size = ops.size → (∀ i, i ∉ rs.map (·.idx) → listed[i]? = listed0[i]?) →
      fuel = X + ((rs.map (·.idx)).filter fun i => !listed.getD i true).length → (∀ k ∈ rs, listed.getD k.idx true = true) → C fuel w → (∀ k ∈ rs, listed.getD k.idx true = true → k.holds u w) →
      wpAnyH P md ops Q S fuel listed (putAll ops a u (rs.map (·.idx))) w := by
    intro fuel listed u w hsz hoff hfu hall hC hF
    have h0 : ((rs.map (·.idx)).filter fun i => !listed.getD i true) = [] := by
      rw [List.filter_eq_nil_iff]
      intro i hi
      obtain ⟨k, hk, rfl⟩ := List.mem_map.1 hi
      simp [hall k hk]
    have hfx : fuel = X := by rw [hfu, h0]; rfl
    subst hfx
    have hl : listed = listAll listed0 (rs.map (·.idx)) := by
      apply Array.ext_getElem?
      intro i
      rw [listAll_get]
      by_cases hi : i ∈ rs.map (·.idx)
      · by_cases hlt : i < listed0.size
        · rw [if_pos ⟨hi, hlt⟩]
          obtain ⟨k, hk, rfl⟩ := List.mem_map.1 hi
          have h1 := hall k hk
          have h2 : k.idx < listed.size := by omega
          rw [Array.getElem?_eq_getElem h2]
          simpa [h2] using h1
        · rw [if_neg (fun h => hlt h.2), Array.getElem?_eq_none (by omega), Array.getElem?_eq_none (by omega)]
      · rw [if_neg (fun h => hi h.1)]; exact hoff i hi
    rw [hl]
    exact hE u w hC (FAll.at_ fun k _ => FAt.of fun i hi _ => hF i hi (hall i hi))
  intro fuel
  induction fuel with
  | zero =>
    intro listed u w hf hsz hoff hfu _ hcl hC hF
    refine hend 0 listed u w hsz hoff hfu (fun k hk => ?_) hC hF
    cases hl : listed.getD k.idx true with
    | true => rfl
    | false =>
      have hz : ((rs.map (·.idx)).filter fun i => !listed.getD i true).length = 0 := by omega
      have : k.idx ∈ (rs.map (·.idx)).filter fun i => !listed.getD i true := List.mem_filter.2 ⟨List.mem_map_of_mem hk, by rw [hl]; rfl⟩
      rw [List.eq_nil_of_length_eq_zero hz] at this
      cases this
  | succ fuel ih =>
    intro listed u w hf hsz hoff hfu hmono hcl hC hF
    by_cases hall : ∀ k ∈ rs, listed.getD k.idx true = true
    · exact hend (fuel + 1) listed u w hsz hoff hfu hall hC hF
    -- what may come up is told of
    have hready : ∀ i ∈ Region.ready md ops listed, i ∈ rs.map (·.idx) := by
      intro i hi
      obtain ⟨hiun, o, ho, hedge⟩ := mem_ready.1 hi
      refine Classical.byContradiction fun hni => ?_
      have hilt := (Array.getElem?_eq_some_iff.1 ho).1
      have h1 := hrest i hilt
      have h2 : listed0.getD i true = false := by
        have h2 := hoff i hni
        have : i < listed.size := by omega
        have h3 : i < listed0.size := by omega
        simp only [Array.getD_eq_getD_getElem?, ← h2] at hiun ⊢
        exact hiun
      have h3 : (rs.map (·.idx)).contains i = false := by simpa using hni
      simp only [h2, h3, Bool.false_or, ho, List.all_eq_true] at h1
      refine hall fun k hk => ?_
      obtain ⟨e, he, h4⟩ := Array.any_eq_true'.1 (h1 k.idx (List.mem_map_of_mem hk))
      simp only [Bool.and_eq_true, beq_iff_eq] at h4
      have := hedge e he h4.1
      rw [h4.2] at this
      exact getD_false_true this
    refine ⟨fun h0 => ?_, fun i hi => ?_⟩
    · -- the first that has not come up may come up
      exfalso
      have : ∀ n, ∀ k ∈ rs, k.idx = n → listed.getD k.idx true = true := by
        intro n
        induction n using Nat.strongRecOn with
        | _ n ihn =>
          intro k hk hkn
          cases hl : listed.getD k.idx true with
          | true => rfl
          | false =>
            obtain ⟨o, ho, he, _⟩ := hedges k hk
            have : k.idx ∈ Region.ready md ops listed := mem_ready.2 ⟨hl, o, ho, fun e hee hb => by
              rcases he e hee hb with h | h
              · exact hmono _ h
              · obtain ⟨k', hk', e'⟩ := List.mem_map.1 h
                have hlt := hback k.idx o ho e hee hb
                have h5 := ihn k'.idx (by omega) k' hk' rfl
                rw [e'] at h5
                have h6 : k.idx < ops.size := (Array.getElem?_eq_some_iff.1 ho).1
                have h7 : e.on < listed.size := by omega
                simpa [h7] using h5⟩
            rw [h0] at this
            cases this
      exact hall fun k hk => this k.idx k hk rfl
    · obtain ⟨hiun, o, ho, hedge⟩ := mem_ready.1 hi
      have hilt := (Array.getElem?_eq_some_iff.1 ho).1
      obtain ⟨r, hr, hri⟩ := List.mem_map.1 (hready i hi)
      subst hri
      have hdl : ∀ k ∈ rs, k.idx = r.idx → ∀ j ∈ k.deps, listed.getD j false = true := by
        intro k hk hki j hj
        obtain ⟨o', ho', _, hd⟩ := hedges k hk
        rw [hki, ho] at ho'
        cases ho'
        obtain ⟨e, he, hb, h⟩ := hd j hj
        have hle := hedge e he hb
        rcases h with h | ⟨k', hk', h1, h2⟩
        · rw [← h]; exact hle
        · exact hcl k' hk' (by rw [h1]; exact getD_false_true hle) j h2
      obtain ⟨_, o', ho', H⟩ := hG.mem hr
      rw [ho] at ho'
      cases ho'
      have hset : (listed.setIfInBounds r.idx true).getD r.idx true = true := by
        have : r.idx < listed.size := by omega
        simp [this]
      have hback1 : ∀ k, (listed.setIfInBounds r.idx true).getD k true = true → k ≠ r.idx → listed.getD k true = true := fun k h hne => by
        rw [getD_set_ne true (Ne.symm hne)] at h; exact h
      refine wpOp_step ho fun K' hK => H fuel u w (by omega) hC (FAll.at_ fun j hj => FAt.of fun k hk e => hF k hk (by rw [e]; exact getD_false_true (hdl r hr rfl j hj))) K' ?_
      intro v w' hS' hC' hR' hF'
      refine hK _ _ ⟨hS', ?_⟩
      have hd : o.dst = dstOf ops r.idx := by simp [dstOf, ho]
      rw [hd, putAll_put ops a u r.idx v _ hap (List.mem_map_of_mem hr)]
      refine ih _ _ _ (by omega) (by simpa using hsz) ?_ ?_ ?_ ?_ hC' ?_
      · intro j hj
        rw [Array.getElem?_setIfInBounds_ne (fun e => hj (by rw [← e]; exact List.mem_map_of_mem hr))]
        exact hoff j hj
      · have := filter_less (p := fun i => !listed.getD i true) (q := fun i => !(listed.setIfInBounds r.idx true).getD i true) (i := r.idx) (l := rs.map (·.idx))
          (fun x hx => by rw [getD_set_ne true (Ne.symm hx)]) hnd (List.mem_map_of_mem hr) (by rw [hiun]; rfl) (by rw [hset]; rfl)
        omega
      · intro j hj; exact getD_set_true (hmono j hj)
      · intro k hk hkl j hj
        by_cases e : k.idx = r.idx
        · exact getD_set_true (hdl k hk e j hj)
        · exact getD_set_true (hcl k hk (hback1 _ hkl e) j hj)
      · intro k hk hkl
        by_cases e : k.idx = r.idx
        · have := apart_inj ops hap hk hr e
          subst this
          show k.F (mask k.deps (setU u k.idx v)) (setU u k.idx v k.idx) w'
          rw [setU_same, mask_setU (fun h => getD_true_false hiun (hdl k hk rfl _ h))]
          exact hF'
        · have h0 := hback1 _ hkl e
          show k.F (mask k.deps (setU u r.idx v)) (setU u r.idx v k.idx) w'
          rw [setU_ne u v e, mask_setU (fun h => getD_true_false hiun (hcl k hk h0 _ h))]
          cases hrw : r.wr with
          | false => rw [hrw] at hR'; exact (hG.mem hk).1.1 _ _ _ _ hR' (hF k hk h0)
          | true => rw [hrw] at hR'; exact (hG.mem hk).1.2 (oneB_spec hW hr hk hrw e) _ _ _ _ hR' (hF k hk h0)

/-- **The region, operation by operation, up to those that wait for all of these.** -/
theorem wpAnyH_rg {w : World} {fuel : Nat} {listed : Array Bool} (rs : List RgOp) (C : Nat → World → Prop) (R : Bool → World → World → Prop)
    (hW : oneB rs = true) (hB : rgB md ops listed fuel (rs.map (·.idx)) (rs.map (·.deps)) = true) (hC : C fuel w) (hG : RgGoals P ops Q S C R a fuel rs (rs.map (·.idx)) rs)
    (hE : ∀ u w, C (fuel - rs.length) w → FAll rs u w (rs.map (·.idx)) → wpAnyH P md ops Q S (fuel - rs.length) (listAll listed (rs.map (·.idx))) (putAll ops a u (rs.map (·.idx))) w) : wpAnyH P md ops Q S fuel listed a w := by
  have h0 := hB
  simp only [rgB, Bool.and_eq_true, List.all_eq_true, List.mem_range, beq_iff_eq] at h0
  obtain ⟨⟨⟨⟨⟨⟨hsz, _⟩, hun⟩, hlen⟩, _⟩, _⟩, _⟩ := h0
  have hun' : ∀ k ∈ rs, listed.getD k.idx true = false := fun k hk => by
    have := hun k.idx (List.mem_map_of_mem hk)
    simpa using this
  have hlen' : rs.length ≤ fuel := by simpa using hlen
  have hfl : ((rs.map (·.idx)).filter fun i => !listed.getD i true).length = rs.length := by
    rw [List.filter_eq_self.2]
    · simp
    · intro i hi
      obtain ⟨k, hk, rfl⟩ := List.mem_map.1 hi
      rw [hun' k hk]; rfl
  have h1 := rg_aux hW hB hG hE fuel listed (slotVal ops a) w (Nat.le_refl _) hsz (fun _ _ => rfl) (by rw [hfl]; omega) (fun _ h => h)
    (fun k hk hl => by rw [hun' k hk] at hl; cases hl) hC (fun k hk hl => by rw [hun' k hk] at hl; cases hl)
  rw [putAll_self] at h1
  exact h1
/-- The same, from the region's beginning. -/
theorem wp_region_rg {id : Nat} {w : World} (rs : List RgOp) (C : Nat → World → Prop) (R : Bool → World → World → Prop) (hm : P.follows .mixedOrders = true) (hW : oneB rs = true)
    (hB : rgB .any ops (Array.replicate ops.size false) ops.size (rs.map (·.idx)) (rs.map (·.deps)) = true) (hC : C ops.size w.drew)
    (hG : RgGoals P ops Q (fun _ => True) C R a ops.size rs (rs.map (·.idx)) rs)
    (hE : ∀ u w, C (ops.size - rs.length) w → FAll rs u w (rs.map (·.idx)) → wpAnyH P .any ops Q (fun _ => True) (ops.size - rs.length) (listAll (Array.replicate ops.size false) (rs.map (·.idx))) (putAll ops a u (rs.map (·.idx))) w) :
    (Code.region id ops true).wp P Q a w :=
  wp_region_held_drew (S := fun _ => True) hm trivial fun _ => wpAnyH_rg rs C R hW hB hC hG hE

/-! The frames written out by the list of the slots. -/
def putL (a : Act) (u : Nat → Value) : List (Nat × Option Tmp) → Act
  | [] => a
  | (i, d) :: r => (putL a u r).put d (u i)
def dsB (ops : Array Oper) (ds : List (Nat × Option Tmp)) (ks : List Nat) : Bool := ds.map (·.1) == ks && ds.all fun (i, d) => dstOf ops i == d
theorem putL_eq {u : Nat → Value} : ∀ {ds : List (Nat × Option Tmp)}, (∀ x ∈ ds, dstOf ops x.1 = x.2) → putL a u ds = putAll ops a u (ds.map (·.1))
  | [], _ => rfl
  | (i, d) :: r, h => by
    show (putL a u r).put d (u i) = (putAll ops a u (r.map (·.1))).put (dstOf ops i) (u i)
    rw [putL_eq (fun x hx => h x (List.mem_cons_of_mem _ hx)), h (i, d) List.mem_cons_self]
def GoalL (P : Program) (ops : Array Oper) (Q : Exit → Act → World → Prop) (C : Nat → World → Prop) (R : Bool → World → World → Prop) (a : Act) (F0 : Nat) (rs : List RgOp) (ds : List (Nat × Option Tmp)) (i : RgOp) : Prop :=
  ((∀ u v w w', R false w w' → i.F u v w → i.F u v w') ∧ (i.wr = false → ∀ u v w w', R true w w' → i.F u v w → i.F u v w')) ∧
  ∃ o, ops[i.idx]? = some o ∧ ∀ f u w, f < F0 → C (f + 1) w → FAll rs u w i.deps → ∀ K : Act → World → Prop,
    Shut (∀ v w', C f w' → R i.wr w w' → i.F (mask i.deps u) v w' → K ((putL a u ds).put o.dst v) w') →
    if Region.wanted o (yielded ops (putL a u ds).tmps) = true then Oper.wp P o (putL a u ds) w K Q else K ((putL a u ds).put o.dst undef) w
def GoalsL (P : Program) (ops : Array Oper) (Q : Exit → Act → World → Prop) (C : Nat → World → Prop) (R : Bool → World → World → Prop) (a : Act) (F0 : Nat) (rs : List RgOp) (ds : List (Nat × Option Tmp)) : List RgOp → Prop
  | [] => True
  | i :: r => GoalL P ops Q C R a F0 rs ds i ∧ GoalsL P ops Q C R a F0 rs ds r
theorem GoalsL.goals {ds : List (Nat × Option Tmp)} {ks : List Nat} (hd : ∀ u, putL a u ds = putAll ops a u ks) : ∀ {l : List RgOp}, GoalsL P ops Q C R a F0 rs ds l → RgGoals P ops Q (fun _ => True) C R a F0 rs ks l
  | [], _ => trivial
  | i :: r, h => by
    refine ⟨⟨h.1.1, ?_⟩, h.2.goals hd⟩
    obtain ⟨o, ho, H⟩ := h.1.2
    refine ⟨o, ho, fun f u w hf hC hD K hK => ?_⟩
    have h1 := H f u w hf hC hD K (fun v w' hC' hR hF => by rw [hd]; exact hK v w' trivial hC' hR hF)
    rw [hd] at h1
    exact h1
theorem GoalsL.nil {ds : List (Nat × Option Tmp)} : GoalsL P ops Q C R a F0 rs ds [] := trivial
theorem GoalsL.cons {ds : List (Nat × Option Tmp)} {i : RgOp} {r : List RgOp} (h : GoalL P ops Q C R a F0 rs ds i) (t : GoalsL P ops Q C R a F0 rs ds r) : GoalsL P ops Q C R a F0 rs ds (i :: r) := ⟨h, t⟩
/-- A goal that no tactic looks into. -/
structure Closed (p : Prop) : Prop where
  out : p
def nth : List Oper → Nat → Option Oper
  | [], _ => none
  | o :: _, 0 => some o
  | _ :: r, n + 1 => nth r n
theorem nth_eq : ∀ (l : List Oper) (n : Nat), l.toArray[n]? = nth l n
  | [], _ => by simp [nth]
  | o :: r, 0 => by simp [nth]
  | o :: r, n + 1 => by
    have := nth_eq r n
    simp only [List.getElem?_toArray] at this
    simp [nth, this]
theorem GoalL.mk {l : List Oper} {ds : List (Nat × Option Tmp)} {k : Nat} {wr : Bool} {D : List Nat} {F : (Nat → Value) → Value → World → Prop} {o : Oper} (ho : nth l k = some o)
    (hst : (∀ u v w w', R false w w' → F u v w → F u v w') ∧ (wr = false → ∀ u v w w', R true w w' → F u v w → F u v w'))
    (h : ∀ f u w, f < F0 → C (f + 1) w → FAll rs u w D → ∀ K : Act → World → Prop,
      Shut (∀ v w', C f w' → R wr w w' → F (mask D u) v w' → K ((putL a u ds).put o.dst v) w') →
      Closed (if Region.wanted o (yielded l.toArray (putL a u ds).tmps) = true then Oper.wp P o (putL a u ds) w K Q else K ((putL a u ds).put o.dst undef) w)) : GoalL P l.toArray Q C R a F0 rs ds ⟨k, wr, D, F⟩ :=
  ⟨hst, o, by rw [nth_eq]; exact ho, fun f u w hf hC hD K hK => (h f u w hf hC hD K hK).out⟩
/-- **A region that draws its order, operation by operation**, up to those that wait for all of these. -/
theorem wp_region_L {id : Nat} {w : World} (rs : List RgOp) (ds : List (Nat × Option Tmp)) (C : Nat → World → Prop) (R : Bool → World → World → Prop) (hm : P.follows .mixedOrders = true) (hW : oneB rs = true)
    (hB : rgB .any ops (Array.replicate ops.size false) ops.size (rs.map (·.idx)) (rs.map (·.deps)) = true) (hD : dsB ops ds (rs.map (·.idx)) = true) (hC : C ops.size w.drew)
    (hG : GoalsL P ops Q C R a ops.size rs ds rs)
    (hE : ∀ u w, C (ops.size - rs.length) w → FAll rs u w (rs.map (·.idx)) → Closed (wpAnyH P .any ops Q (fun _ => True) (ops.size - rs.length) (listAll (Array.replicate ops.size false) (rs.map (·.idx))) (putL a u ds) w)) :
    (Code.region id ops true).wp P Q a w := by
  simp only [dsB, Bool.and_eq_true, List.all_eq_true, beq_iff_eq] at hD
  have hd : ∀ u, putL a u ds = putAll ops a u (rs.map (·.idx)) := fun u => by
    rw [← hD.1]; exact putL_eq fun x hx => hD.2 x hx
  exact wp_region_rg rs C R hm hW hB hC (hG.goals hd) fun u w hC' hF => by have := (hE u w hC' hF).out; rw [hd] at this; exact this
/-- The one operation that may come up. -/
theorem one_ready {l : List Oper} {fuel i : Nat} {listed : Array Bool} {w : World} {o : Oper} (hr : Region.ready md l.toArray listed = [i]) (ho : nth l i = some o)
    (h : ∀ K : Act → World → Prop, Shut (∀ a w, wpAnyH P md l.toArray Q (fun _ => True) fuel (listed.setIfInBounds i true) a w → K a w) →
      Closed (if Region.wanted o (yielded l.toArray a.tmps) = true then Oper.wp P o a w K Q else K (a.put o.dst undef) w)) : wpAnyH P md l.toArray Q (fun _ => True) (fuel + 1) listed a w :=
  wpAnyH_ready hr (by simp) (AllReadyH.cons (by rw [nth_eq]; exact ho) (fun K hK => (h K (fun a w hW => hK.out a w trivial (fun _ => hW))).out) AllReadyH.nil)
def tget (v : Value) (k : Nat) : Value := match v with | .tuple a => a.getD k undef | _ => undef
end
end Go.Proofs.YtchlacepeckeaaaDoor
