/- l6Wrong: a program with one thing wrong, it may be (made by gen_progwrong.py). -/
import Derived.Test.YtobkammimkgnkaaProgCopy
import Derived.Test.YtobkammimkgnkaaDrawOps
import Derived.Deep.RegionLaw
import Derived.Test.YtobkammimkgnkaaRgT
namespace Go.Proofs.Ytobkammimkgnkaa
open Go.RowKit
set_option linter.unusedSimpArgs false
set_option linter.unusedVariables false
theorem lit_int1 {w : World} {H E : Nat} {fr : Nat × Nat} {x : Int} (h : w.heap[H]? = some (.cells #[.int .i64 x] E fr)) : Row 1 encI w (.slice (some ⟨H, 0, none⟩) 1 1) [x] := lit_at h rfl rfl (by simp)
theorem Own.litT {base g : Nat} {w : World} {x y z : Int} (hg : w.heap[g]? = some (.cells #[.int .i64 x, .int .i64 y, .int .i64 z] 36 (0, 0))) (hb : base ≤ g) : Own base 36 3 encT w (.slice (some ⟨g, 0, none⟩) [(x, y, z)].length 1) [(x, y, z)] :=
  Own.shut (cur := #[.int .i64 x, .int .i64 y, .int .i64 z]) rfl hb rfl hg (Nat.le_refl _) (by decide) rfl rfl
theorem ProgFew.upd {M : Nat} {c d : ProgD} (h : ProgFew M c) (h0 : d.sems.length ≤ c.sems.length + 1) (h1 : d.groups.length ≤ c.groups.length + 1) (h2 : d.barriers.length ≤ c.barriers.length + 1) (h3 : d.rooms.length ≤ c.rooms.length + 1) (h4 : d.threads.length ≤ c.threads.length + 1) (h5 : ∀ t ∈ d.threads, t ∈ c.threads ∨ t.length ≤ 1) : ProgFew (M + 1) d := by
  obtain ⟨g0, g1, g2, g3, g4, g5⟩ := h
  refine ⟨by omega, by omega, by omega, by omega, by omega, fun t ht => ?_⟩
  rcases h5 t ht with h | h
  · exact Nat.le_succ_of_le (g5 t h)
  · omega
theorem int_inj9 {a b : Int} (h : Value.int .i64 a = .int .i64 b) : a = b := by injection h
theorem sl_inj9 {a b n c : Nat} (h : Value.slice (some ⟨a, 0, none⟩) n c = .slice (some ⟨b, 0, none⟩) n c) : a = b := by injection h with h; injection h with h; injection h
set_option maxRecDepth 100000 in
set_option maxHeartbeats 16000000 in
theorem l6Wrong_calls (b N M : Nat) (v : Value) (c : ProgD) (w0 w : World) (h : Dr w0 b N w) (hN : N ≤ 900000) (hq : ProgRow w v c) (hf : ProgFew M c) (hM : M ≤ 1000) :
    Calls Try.prog 51 #[.pointer (some ⟨b, 0, none⟩), v] w fun e w' => ∃ v' c', e = .returned v' ∧ ProgOwn w.heap.size w'.heap.size w' v' c' ∧ ProgFew (M + 1) c' ∧ Dr w b (N + 20) w' := by
  have A0 := Lib.hid (Dr.start h.r); have hlt := h.r.lt; clear h
  have HP := Lib.hid hq
  have HF := Lib.hid hf
  obtain ⟨aP0, pP0, aP1, pP1, aP2, pP2, aP3, pP3, aP4, pP4, rfl, hq⟩ := hq
  clear hq
  obtain ⟨hf0, hf1, hf2, hf3, hf4, hf5⟩ := hf
  clear hf5
  go_enter Try.func51, Try.ntmps51
  go_wp2_with (fail)
  refine (l6Copy_calls _ M c _ (ProgRow.below HP.out (Below.alloc (Below.alloc (Below.refl _ _) (by first | omega | (simp only [szA, szS, szD, World.heap_drewN] at * <;> omega)) _) (by first | omega | (simp only [szA, szS, szD, World.heap_drewN] at * <;> omega)) _)) HF.out hM).mono ?_
  rintro e w1 ⟨vu, rfl, ho_u, hb⟩
  have A1 := Lib.hid (Dr.below ((A0.out.alloc _).alloc _) hb)
  have Z1 := hb.size
  have N1 : w.heap.size + 2 ≤ w1.heap.size := (by first | with_reducible exact Z1 | (simp only [szA, szS, szD] at Z1; omega))
  clear Z1
  have Xp_1 : Hid (w1.heap[w.heap.size]? = some (.cells #[.slice aP0 c.sems.length pP0, .slice aP1 c.groups.length pP1, .slice aP2 c.barriers.length pP2, .slice aP3 c.rooms.length pP3, .slice aP4 c.threads.length pP4] 30 (0, 0))) := below_at hb (heap_up (heap_at' (n := w.heap.size) (by first | omega | (simp only [szA, szS, szD, World.heap_drewN] at * <;> omega))))
  have Xres_1 : Hid (w1.heap[w.heap.size + 1]? = some (.cells #[.slice none 0 0, .slice none 0 0, .slice none 0 0, .slice none 0 0, .slice none 0 0] 30 (0, 0))) := below_at hb (heap_at' (n := w.heap.size + 1) (by first | omega | (simp only [szA, szS, szD, World.heap_drewN] at * <;> omega)))
  obtain ⟨au0, pu0, au1, pu1, au2, pu2, au3, pu3, au4, pu4, rfl, ho0, ho1, ho2, ho3, ho4, ap01, ap02, ap03, ap12, ap13, ap23⟩ := ho_u
  have Ou0_1 := Lib.hid (ho0.mono (show w.heap.size ≤ _ from (by first | omega | (simp only [szA, szS, szD, World.heap_drewN] at * <;> omega)))); clear ho0
  have Ou1_1 := Lib.hid (ho1.mono (show w.heap.size ≤ _ from (by first | omega | (simp only [szA, szS, szD, World.heap_drewN] at * <;> omega)))); clear ho1
  have Ou2_1 := Lib.hid (ho2.mono (show w.heap.size ≤ _ from (by first | omega | (simp only [szA, szS, szD, World.heap_drewN] at * <;> omega)))); clear ho2
  have Ou3_1 := Lib.hid (ho3.mono (show w.heap.size ≤ _ from (by first | omega | (simp only [szA, szS, szD, World.heap_drewN] at * <;> omega)))); clear ho3
  have Ou4_1 := Lib.hid (ho4.mono (show w.heap.size ≤ _ from (by first | omega | (simp only [szA, szS, szD, World.heap_drewN] at * <;> omega)))); clear ho4
  have APu01 := Lib.hid ap01; clear ap01
  have APu02 := Lib.hid ap02; clear ap02
  have APu03 := Lib.hid ap03; clear ap03
  have APu12 := Lib.hid ap12; clear ap12
  have APu13 := Lib.hid ap13; clear ap13
  have APu23 := Lib.hid ap23; clear ap23
  clear hb
  obtain ⟨cp1_0, cp1_1, cp1_2, cp1_3, cp1_4, fp1_0, fp1_1, fp1_2, fp1_3, fp1_4⟩ := box5 Xp_1.out; have lp1 := heap_lt Xp_1.out
  obtain ⟨cres1_0, cres1_1, cres1_2, cres1_3, cres1_4, fres1_0, fres1_1, fres1_2, fres1_3, fres1_4⟩ := box5 Xres_1.out; have lres1 := heap_lt Xres_1.out
  have S1 : w.heap.size ≤ w1.heap.size := (by omega)
  go_wp2_with (fail)
  refine (pickD b N 24 w _ (A1.out.alloc _) (by omega) (by decide)).mono ?_
  rintro e w2 ⟨x, rfl, hx0, hx1, hd⟩
  have A2 := Lib.hid (Dr.then (A1.out.alloc _) hd)
  have Z2 := hd.size
  have N2 : w1.heap.size + 1 ≤ w2.heap.size := (by first | with_reducible exact Z2 | (simp only [szA, szS, szD] at Z2; omega))
  clear Z2
  have Xres_2 := Lib.hid (hd.at_ (heap_up Xres_1.out) (by first | omega | (simp only [szA, szS, szD, World.heap_drewN] at * <;> omega)))
  have Xout_2 : Hid (w2.heap[w1.heap.size]? = some (.cells #[.slice au0 c.sems.length pu0, .slice au1 c.groups.length pu1, .slice au2 c.barriers.length pu2, .slice au3 c.rooms.length pu3, .slice au4 c.threads.length pu4] 30 (0, 0))) := hd.at_ (heap_at' (n := w1.heap.size) (by first | omega | (simp only [szA, szS, szD, World.heap_drewN] at * <;> omega))) (by first | omega | (simp only [szA, szS, szD, World.heap_drewN] at * <;> omega))
  have Ou0_2 := Lib.hid ((Ou0_1.out.alloc _).past hd.g hlt)
  have Ou1_2 := Lib.hid ((Ou1_1.out.alloc _).past hd.g hlt)
  have Ou2_2 := Lib.hid ((Ou2_1.out.alloc _).past hd.g hlt)
  have Ou3_2 := Lib.hid ((Ou3_1.out.alloc _).past hd.g hlt)
  have Ou4_2 := Lib.hid ((Ou4_1.out.alloc _).past hd.g hlt)
  clear hd
  obtain ⟨cres2_0, cres2_1, cres2_2, cres2_3, cres2_4, fres2_0, fres2_1, fres2_2, fres2_3, fres2_4⟩ := box5 Xres_2.out; have lres2 := heap_lt Xres_2.out
  obtain ⟨cout2_0, cout2_1, cout2_2, cout2_3, cout2_4, fout2_0, fout2_1, fout2_2, fout2_3, fout2_4⟩ := box5 Xout_2.out; have lout2 := heap_lt Xout_2.out
  have S2 : w.heap.size ≤ w2.heap.size := (by omega)
  clear cp1_0 cp1_1 cp1_2 cp1_3 cp1_4 fp1_0 fp1_1 fp1_2 fp1_3 fp1_4 cres1_0 cres1_1 cres1_2 cres1_3 cres1_4 fres1_0 fres1_1 fres1_2 fres1_3 fres1_4
  by_cases h0 : x = 0
  · subst h0
    go_wp2_with (fail)
    have hN0 : w2.heap.size ≤ w2.heap.size := (by first | omega | (simp only [szA, szS, szD, World.heap_drewN] at * <;> omega))
    refine wp_region_T [⟨0, false, [], fun _ v _ => v = .pointer (some ⟨w1.heap.size, 0, none⟩)⟩, ⟨1, false, [0], fun _ v _ => v = .slice au0 c.sems.length pu0⟩, ⟨2, false, [], fun _ v _ => v = .pointer (some ⟨b, 0, none⟩)⟩, ⟨3, false, [], fun _ v w' => ∃ g, v = .slice (some ⟨g, 0, none⟩) 3 3 ∧ w.heap.size ≤ g ∧ w'.heap[g]? = some (.cells #[.int .i64 0, .int .i64 10, .int .i64 1] 3 (0, 0))⟩, ⟨4, false, [2, 3], fun _ v _ => ∃ x : Int, v = .int .i64 x ∧ 0 ≤ x ∧ x ≤ 10⟩, ⟨5, false, [2, 3, 4], fun u v w' => ∃ g y, u 4 = .int .i64 y ∧ v = .slice (some ⟨g, 0, none⟩) 1 1 ∧ w.heap.size ≤ g ∧ w'.heap[g]? = some (.cells #[.int .i64 y] 3 (0, 0))⟩] [(0, some 12), (1, some 13), (2, some 14), (3, some 15), (4, some 16), (5, some 17)] (fun f w' => Dr w b ((N + 1) + (9 - f)) w' ∧ w2.heap.size ≤ w'.heap.size ∧ w'.heap[w1.heap.size]? = some (.cells #[.slice au0 c.sems.length pu0, .slice au1 c.groups.length pu1, .slice au2 c.barriers.length pu2, .slice au3 c.rooms.length pu3, .slice au4 c.threads.length pu4] 30 (0, 0)) ∧ w'.heap[w.heap.size + 1]? = some (.cells #[.slice none 0 0, .slice none 0 0, .slice none 0 0, .slice none 0 0, .slice none 0 0] 30 (0, 0)) ∧ Own w.heap.size 3 1 encI w' (.slice au0 c.sems.length pu0) c.sems ∧ Own w.heap.size 3 1 encI w' (.slice au1 c.groups.length pu1) c.groups ∧ Own w.heap.size 3 1 encI w' (.slice au2 c.barriers.length pu2) c.barriers ∧ Own w.heap.size 3 1 encI w' (.slice au3 c.rooms.length pu3) c.rooms ∧ TTOwn w.heap.size w' (.slice au4 c.threads.length pu4) c.threads) (fun _ w1 w2 => w1.grownBy w2 (some b)) (by kernel_rfl) (by rfl) (by kernel_rfl) (by kernel_rfl) ⟨Dr.mono A2.out.drew (by omega), hN0, heap_drew Xout_2.out, heap_drew Xres_2.out, Ou0_2.out, Ou1_2.out, Ou2_2.out, Ou3_2.out, Ou4_2.out⟩ (GoalsL.cons ?_ (GoalsL.cons ?_ (GoalsL.cons ?_ (GoalsL.cons ?_ (GoalsL.cons ?_ (GoalsL.cons ?_ (GoalsL.nil))))))) ?_
    · refine GoalL.mk (by rfl) (⟨fun _ _ _ _ _ h => h, fun _ _ _ _ _ _ h => h⟩) ?_
      intro f u wq hf hC hD K hK
      replace hf : f < 9 := hf
      have hA := hC.1; have hN := hC.2.1; have hout := hC.2.2.1; have hres := hC.2.2.2.1; have ou0 := hC.2.2.2.2.1; have ou1 := hC.2.2.2.2.2.1; have ou2 := hC.2.2.2.2.2.2.1; have ou3 := hC.2.2.2.2.2.2.2.1; have ou4 := hC.2.2.2.2.2.2.2.2; clear hC
      clear hD
      simp only [putL, Act.put, List.setIfInBounds_toArray, List.set_cons_zero, List.set_cons_succ] at hK ⊢
      refine Closed.mk ?_
      go_simp
      exact hK.out _ _ ⟨hA.mono (by omega), hN, hout, hres, ou0, ou1, ou2, ou3, ou4⟩ (World.grownBy.refl _ _) rfl
    · refine GoalL.mk (by rfl) (⟨fun _ _ _ _ _ h => h, fun _ _ _ _ _ _ h => h⟩) ?_
      intro f u wq hf hC hD K hK
      replace hf : f < 9 := hf
      have hA := hC.1; have hN := hC.2.1; have hout := hC.2.2.1; have hres := hC.2.2.2.1; have ou0 := hC.2.2.2.2.1; have ou1 := hC.2.2.2.2.2.1; have ou2 := hC.2.2.2.2.2.2.1; have ou3 := hC.2.2.2.2.2.2.2.1; have ou4 := hC.2.2.2.2.2.2.2.2; clear hC
      have d0 := hD.1; clear hD
      have q0 : u 0 = .pointer (some ⟨w1.heap.size, 0, none⟩) := d0
      have e0 := q0; clear q0
      clear d0
      simp only [putL, Act.put, List.setIfInBounds_toArray, List.set_cons_zero, List.set_cons_succ, e0] at hK ⊢
      obtain ⟨cout_0, cout_1, cout_2, cout_3, cout_4, fout_0, fout_1, fout_2, fout_3, fout_4⟩ := box5 hout
      refine Closed.mk ?_
      go_simp
      exact hK.out _ _ ⟨hA.mono (by omega), hN, hout, hres, ou0, ou1, ou2, ou3, ou4⟩ (World.grownBy.refl _ _) rfl
    · refine GoalL.mk (by rfl) (⟨fun _ _ _ _ _ h => h, fun _ _ _ _ _ _ h => h⟩) ?_
      intro f u wq hf hC hD K hK
      replace hf : f < 9 := hf
      have hA := hC.1; have hN := hC.2.1; have hout := hC.2.2.1; have hres := hC.2.2.2.1; have ou0 := hC.2.2.2.2.1; have ou1 := hC.2.2.2.2.2.1; have ou2 := hC.2.2.2.2.2.2.1; have ou3 := hC.2.2.2.2.2.2.2.1; have ou4 := hC.2.2.2.2.2.2.2.2; clear hC
      clear hD
      simp only [putL, Act.put, List.setIfInBounds_toArray, List.set_cons_zero, List.set_cons_succ] at hK ⊢
      refine Closed.mk ?_
      go_simp
      exact hK.out _ _ ⟨hA.mono (by omega), hN, hout, hres, ou0, ou1, ou2, ou3, ou4⟩ (World.grownBy.refl _ _) rfl
    · refine GoalL.mk (by rfl) (⟨fun _ _ _ _ hR ⟨g, h1, h2, h3⟩ => ⟨g, h1, h2, grown_at hR h3 (by omega)⟩, fun _ => fun _ _ _ _ hR ⟨g, h1, h2, h3⟩ => ⟨g, h1, h2, grown_at hR h3 (by omega)⟩⟩) ?_
      intro f u wq hf hC hD K hK
      replace hf : f < 9 := hf
      have hA := hC.1; have hN := hC.2.1; have hout := hC.2.2.1; have hres := hC.2.2.2.1; have ou0 := hC.2.2.2.2.1; have ou1 := hC.2.2.2.2.2.1; have ou2 := hC.2.2.2.2.2.2.1; have ou3 := hC.2.2.2.2.2.2.2.1; have ou4 := hC.2.2.2.2.2.2.2.2; clear hC
      clear hD
      simp only [putL, Act.put, List.setIfInBounds_toArray, List.set_cons_zero, List.set_cons_succ] at hK ⊢
      refine Closed.mk ?_
      go_simp
      exact hK.out _ _ ⟨(hA.alloc _).mono (by omega), Nat.le_trans hN (alloc_le _ _), (heap_up hout), (heap_up hres), (ou0.alloc _), (ou1.alloc _), (ou2.alloc _), (ou3.alloc _), (ou4.alloc _)⟩ (World.grownBy_alloc _ _ _) ⟨_, rfl, by have := hA.size; omega, heap_at _ _⟩
    · refine GoalL.mk (by rfl) (⟨fun _ _ _ _ _ h => h, fun _ _ _ _ _ _ h => h⟩) ?_
      intro f u wq hf hC hD K hK
      replace hf : f < 9 := hf
      have hA := hC.1; have hN := hC.2.1; have hout := hC.2.2.1; have hres := hC.2.2.2.1; have ou0 := hC.2.2.2.2.1; have ou1 := hC.2.2.2.2.2.1; have ou2 := hC.2.2.2.2.2.2.1; have ou3 := hC.2.2.2.2.2.2.2.1; have ou4 := hC.2.2.2.2.2.2.2.2; clear hC
      have d2 := hD.1; have d3 := hD.2.1; clear hD
      have q2 : u 2 = .pointer (some ⟨b, 0, none⟩) := d2
      have e2 := q2; clear q2
      clear d2
      have q3 : ∃ g, u 3 = .slice (some ⟨g, 0, none⟩) 3 3 ∧ w.heap.size ≤ g ∧ wq.heap[g]? = some (.cells #[.int .i64 0, .int .i64 10, .int .i64 1] 3 (0, 0)) := d3
      obtain ⟨g3, e3, q3a, q3b⟩ := q3
      clear d3
      simp only [putL, Act.put, List.setIfInBounds_toArray, List.set_cons_zero, List.set_cons_succ, e2, e3] at hK ⊢
      refine Closed.mk ?_
      go_simp
      refine (numD b ((N + 1) + (9 - (f + 1))) _ [0, 10, 1] w _ hA (by omega) (lit_at q3b rfl) (by decide) (by simp [Value.ownBlock]; omega)).mono ?_
      rintro e w2 ⟨x, rfl, hx, hd⟩
      have hxb : 0 ≤ x ∧ x ≤ 10 := by simp at hx; omega
      exact hK.out _ _ ⟨(hA.then hd).mono (by omega), Nat.le_trans hN hd.size, (hd.at_ hout (by omega)), (hd.at_ hres (by omega)), (ou0.past hd.g hlt), (ou1.past hd.g hlt), (ou2.past hd.g hlt), (ou3.past hd.g hlt), (ou4.past hd.g hlt)⟩ hd.g ⟨x, rfl, hxb.1, hxb.2⟩
    · refine GoalL.mk (by rfl) (⟨fun _ _ _ _ hR ⟨g, y, h0, h1, h2, h3⟩ => ⟨g, y, h0, h1, h2, grown_at hR h3 (by omega)⟩, fun _ => fun _ _ _ _ hR ⟨g, y, h0, h1, h2, h3⟩ => ⟨g, y, h0, h1, h2, grown_at hR h3 (by omega)⟩⟩) ?_
      intro f u wq hf hC hD K hK
      replace hf : f < 9 := hf
      have hA := hC.1; have hN := hC.2.1; have hout := hC.2.2.1; have hres := hC.2.2.2.1; have ou0 := hC.2.2.2.2.1; have ou1 := hC.2.2.2.2.2.1; have ou2 := hC.2.2.2.2.2.2.1; have ou3 := hC.2.2.2.2.2.2.2.1; have ou4 := hC.2.2.2.2.2.2.2.2; clear hC
      have d2 := hD.1; have d3 := hD.2.1; have d4 := hD.2.2.1; clear hD
      have q2 : u 2 = .pointer (some ⟨b, 0, none⟩) := d2
      have e2 := q2; clear q2
      clear d2
      have q3 : ∃ g, u 3 = .slice (some ⟨g, 0, none⟩) 3 3 ∧ w.heap.size ≤ g ∧ wq.heap[g]? = some (.cells #[.int .i64 0, .int .i64 10, .int .i64 1] 3 (0, 0)) := d3
      obtain ⟨g3, e3, q3a, q3b⟩ := q3
      clear d3
      have q4 : ∃ x : Int, u 4 = .int .i64 x ∧ 0 ≤ x ∧ x ≤ 10 := d4
      obtain ⟨x4, e4, q4a, q4b⟩ := q4
      clear d4
      simp only [putL, Act.put, List.setIfInBounds_toArray, List.set_cons_zero, List.set_cons_succ, e2, e3, e4] at hK ⊢
      refine Closed.mk ?_
      go_simp
      exact hK.out _ _ ⟨(hA.alloc _).mono (by omega), Nat.le_trans hN (alloc_le _ _), (heap_up hout), (heap_up hres), (ou0.alloc _), (ou1.alloc _), (ou2.alloc _), (ou3.alloc _), (ou4.alloc _)⟩ (World.grownBy_alloc _ _ _) ⟨_, x4, (by simp [mask, e4]), rfl, by have := hA.size; omega, heap_at _ _⟩
    intro u w3 hC hD
    have hA := hC.1; have hN := hC.2.1; have hout := hC.2.2.1; have hres := hC.2.2.2.1; have ou0 := hC.2.2.2.2.1; have ou1 := hC.2.2.2.2.2.1; have ou2 := hC.2.2.2.2.2.2.1; have ou3 := hC.2.2.2.2.2.2.2.1; have ou4 := hC.2.2.2.2.2.2.2.2; clear hC
    have d0 := hD.1; have d1 := hD.2.1; have d2 := hD.2.2.1; have d3 := hD.2.2.2.1; have d4 := hD.2.2.2.2.1; have d5 := hD.2.2.2.2.2.1; clear hD
    have q0 : u 0 = .pointer (some ⟨w1.heap.size, 0, none⟩) := d0
    have e0 := q0; clear q0
    clear d0
    have q1 : u 1 = .slice au0 c.sems.length pu0 := d1
    have e1 := q1; clear q1
    clear d1
    have q2 : u 2 = .pointer (some ⟨b, 0, none⟩) := d2
    have e2 := q2; clear q2
    clear d2
    have q3 : ∃ g, u 3 = .slice (some ⟨g, 0, none⟩) 3 3 ∧ w.heap.size ≤ g ∧ w3.heap[g]? = some (.cells #[.int .i64 0, .int .i64 10, .int .i64 1] 3 (0, 0)) := d3
    obtain ⟨g3, e3, q3a, q3b⟩ := q3
    clear d3
    have q4 : ∃ x : Int, u 4 = .int .i64 x ∧ 0 ≤ x ∧ x ≤ 10 := d4
    obtain ⟨x4, e4, q4a, q4b⟩ := q4
    clear d4
    have q5 : ∃ g y, u 4 = .int .i64 y ∧ u 5 = .slice (some ⟨g, 0, none⟩) 1 1 ∧ w.heap.size ≤ g ∧ w3.heap[g]? = some (.cells #[.int .i64 y] 3 (0, 0)) := d5
    obtain ⟨g5, y5, z5, e5, q5a, q5b⟩ := q5
    rw [e4] at z5
    obtain rfl : x4 = y5 := int_inj9 z5
    clear z5
    clear d5
    replace hA : Dr w b ((N + 1) + (9 - (9 - 6))) w3 := hA
    have A3 : Hid (Dr w b (N + 10) w3) := Lib.hid (hA.mono (by omega))
    have N3 := hN; have S3 := hA.size
    have Xout_3 := Lib.hid hout; clear hout
    have Xres_3 := Lib.hid hres; clear hres
    have Ou0_3 := Lib.hid ou0; clear ou0
    have Ou1_3 := Lib.hid ou1; clear ou1
    have Ou2_3 := Lib.hid ou2; clear ou2
    have Ou3_3 := Lib.hid ou3; clear ou3
    have Ou4_3 := Lib.hid ou4; clear ou4
    obtain ⟨cout3_0, cout3_1, cout3_2, cout3_3, cout3_4, fout3_0, fout3_1, fout3_2, fout3_3, fout3_4⟩ := box5 Xout_3.out; have lout3 := heap_lt Xout_3.out
    obtain ⟨cres3_0, cres3_1, cres3_2, cres3_3, cres3_4, fres3_0, fres3_1, fres3_2, fres3_3, fres3_4⟩ := box5 Xres_3.out; have lres3 := heap_lt Xres_3.out
    clear hA hN hN0
    simp only [putL, Act.put, List.setIfInBounds_toArray, List.set_cons_zero, List.set_cons_succ, e0, e1, e2, e3, e4, e5]
    refine Closed.mk ?_
    change wpAnyH _ _ _ _ _ (2 + 1) _ _ _
    refine one_ready (i := 6) (by kernel_rfl) (by rfl) ?_
    intro K hK
    refine Closed.mk ?_
    refine step_push _ encI_len encI_one rfl _ _ 22 rfl 3 _ 8 Try.underlying22 info_int rfl (by decide) w.heap.size (.slice au0 c.sems.length pu0) c.sems (by simp [Act.eval]) (Ou0_3.out) (by omega) (.slice (some ⟨g5, 0, none⟩) 1 1) [x4] (by simp [Act.eval]) (lit_int1 q5b) (by simp) (by decide) (by simp only [List.length_cons, List.length_nil]; omega) ?_
    intro ad4 cp4 w4 hown hg hat
    have Xout_4 := Lib.hid (grown_at2 hg Xout_3.out (Ou0_3.out.ne Xout_3.out (by decide)))
    have Xres_4 := Lib.hid (grown_at2 hg Xres_3.out (Ou0_3.out.ne Xres_3.out (by decide)))
    have Ou1_4 := Lib.hid (Ou1_3.out.apart hg APu01.out)
    have Ou2_4 := Lib.hid (Ou2_3.out.apart hg APu02.out)
    have Ou3_4 := Lib.hid (Ou3_3.out.apart hg APu03.out)
    have Ou4_4 := Lib.hid (Ou4_3.out.grownT Ou0_3.out hg (by decide))
    have Ou0_4 := Lib.hid hown
    have A4 := Lib.hid (Dr.own A3.out hg (fun g e => Ou0_3.out.blk g e))
    have N4 : w3.heap.size ≤ w4.heap.size := hg.size
    clear hown hg hat
    obtain ⟨cout4_0, cout4_1, cout4_2, cout4_3, cout4_4, fout4_0, fout4_1, fout4_2, fout4_3, fout4_4⟩ := box5 Xout_4.out; have lout4 := heap_lt Xout_4.out
    obtain ⟨cres4_0, cres4_1, cres4_2, cres4_3, cres4_4, fres4_0, fres4_1, fres4_2, fres4_3, fres4_4⟩ := box5 Xres_4.out; have lres4 := heap_lt Xres_4.out
    have S4 : w.heap.size ≤ w4.heap.size := by omega
    refine hK.out _ _ ?_
    refine one_ready (i := 7) (by kernel_rfl) (by rfl) ?_
    intro K2 hK2
    refine Closed.mk ?_
    go_simp
    refine hK2.out _ _ ?_
    refine one_ready (i := 8) (by kernel_rfl) (by rfl) ?_
    intro K3 hK3
    refine Closed.mk ?_
    go_simp
    refine hK3.out _ _ ?_
    refine wpAnyH_done (by kernel_rfl) ?_ _
    have ne_out_res : w1.heap.size ≠ w.heap.size + 1 := by omega
    have nf_out_res := ne_out_res.symm
    go_wp2_with (fail)
    refine bodyPost_ret (v := .agg #[.slice ad4 (c.sems.length + 1) cp4, .slice au1 c.groups.length pu1, .slice au2 c.barriers.length pu2, .slice au3 c.rooms.length pu3, .slice au4 c.threads.length pu4]) (by simp [results, Try.results51, go_sem, cres4_0, cres4_1, cres4_2, cres4_3, cres4_4, lres4, cout4_0, cout4_1, cout4_2, cout4_3, cout4_4, lout4, ne_out_res, nf_out_res]) rfl ⟨_, ⟨(c.sems ++ [x4]), c.groups, c.barriers, c.rooms, c.threads⟩, rfl, ?_, ?_, ?_⟩
    · exact (ProgOwn.make ((((((Ou0_4.out.setB (w1.heap.size) 0 Xout_4.out (by decide) (.slice ad4 (c.sems.length + 1) cp4)).setB (w.heap.size + 1) 0 (set_off (a := ⟨w1.heap.size, 0, none⟩) Xres_4.out (by first | omega | (simp only [szA, szS, szD, World.heap_drewN] at * <;> omega)) (.slice ad4 (c.sems.length + 1) cp4)) (by decide) (.slice ad4 (c.sems.length + 1) cp4)).setB (w.heap.size + 1) 1 (set_at (a := ⟨w.heap.size + 1, 0, none⟩) (set_off (a := ⟨w1.heap.size, 0, none⟩) Xres_4.out (by first | omega | (simp only [szA, szS, szD, World.heap_drewN] at * <;> omega)) (.slice ad4 (c.sems.length + 1) cp4)) rfl rfl (.slice ad4 (c.sems.length + 1) cp4)) (by decide) (.slice au1 c.groups.length pu1)).setB (w.heap.size + 1) 2 (set_at (a := ⟨w.heap.size + 1, 1, none⟩) (set_at (a := ⟨w.heap.size + 1, 0, none⟩) (set_off (a := ⟨w1.heap.size, 0, none⟩) Xres_4.out (by first | omega | (simp only [szA, szS, szD, World.heap_drewN] at * <;> omega)) (.slice ad4 (c.sems.length + 1) cp4)) rfl rfl (.slice ad4 (c.sems.length + 1) cp4)) rfl rfl (.slice au1 c.groups.length pu1)) (by decide) (.slice au2 c.barriers.length pu2)).setB (w.heap.size + 1) 3 (set_at (a := ⟨w.heap.size + 1, 2, none⟩) (set_at (a := ⟨w.heap.size + 1, 1, none⟩) (set_at (a := ⟨w.heap.size + 1, 0, none⟩) (set_off (a := ⟨w1.heap.size, 0, none⟩) Xres_4.out (by first | omega | (simp only [szA, szS, szD, World.heap_drewN] at * <;> omega)) (.slice ad4 (c.sems.length + 1) cp4)) rfl rfl (.slice ad4 (c.sems.length + 1) cp4)) rfl rfl (.slice au1 c.groups.length pu1)) rfl rfl (.slice au2 c.barriers.length pu2)) (by decide) (.slice au3 c.rooms.length pu3)).setB (w.heap.size + 1) 4 (set_at (a := ⟨w.heap.size + 1, 3, none⟩) (set_at (a := ⟨w.heap.size + 1, 2, none⟩) (set_at (a := ⟨w.heap.size + 1, 1, none⟩) (set_at (a := ⟨w.heap.size + 1, 0, none⟩) (set_off (a := ⟨w1.heap.size, 0, none⟩) Xres_4.out (by first | omega | (simp only [szA, szS, szD, World.heap_drewN] at * <;> omega)) (.slice ad4 (c.sems.length + 1) cp4)) rfl rfl (.slice ad4 (c.sems.length + 1) cp4)) rfl rfl (.slice au1 c.groups.length pu1)) rfl rfl (.slice au2 c.barriers.length pu2)) rfl rfl (.slice au3 c.rooms.length pu3)) (by decide) (.slice au4 c.threads.length pu4)) ((((((Ou1_4.out.setB (w1.heap.size) 0 Xout_4.out (by decide) (.slice ad4 (c.sems.length + 1) cp4)).setB (w.heap.size + 1) 0 (set_off (a := ⟨w1.heap.size, 0, none⟩) Xres_4.out (by first | omega | (simp only [szA, szS, szD, World.heap_drewN] at * <;> omega)) (.slice ad4 (c.sems.length + 1) cp4)) (by decide) (.slice ad4 (c.sems.length + 1) cp4)).setB (w.heap.size + 1) 1 (set_at (a := ⟨w.heap.size + 1, 0, none⟩) (set_off (a := ⟨w1.heap.size, 0, none⟩) Xres_4.out (by first | omega | (simp only [szA, szS, szD, World.heap_drewN] at * <;> omega)) (.slice ad4 (c.sems.length + 1) cp4)) rfl rfl (.slice ad4 (c.sems.length + 1) cp4)) (by decide) (.slice au1 c.groups.length pu1)).setB (w.heap.size + 1) 2 (set_at (a := ⟨w.heap.size + 1, 1, none⟩) (set_at (a := ⟨w.heap.size + 1, 0, none⟩) (set_off (a := ⟨w1.heap.size, 0, none⟩) Xres_4.out (by first | omega | (simp only [szA, szS, szD, World.heap_drewN] at * <;> omega)) (.slice ad4 (c.sems.length + 1) cp4)) rfl rfl (.slice ad4 (c.sems.length + 1) cp4)) rfl rfl (.slice au1 c.groups.length pu1)) (by decide) (.slice au2 c.barriers.length pu2)).setB (w.heap.size + 1) 3 (set_at (a := ⟨w.heap.size + 1, 2, none⟩) (set_at (a := ⟨w.heap.size + 1, 1, none⟩) (set_at (a := ⟨w.heap.size + 1, 0, none⟩) (set_off (a := ⟨w1.heap.size, 0, none⟩) Xres_4.out (by first | omega | (simp only [szA, szS, szD, World.heap_drewN] at * <;> omega)) (.slice ad4 (c.sems.length + 1) cp4)) rfl rfl (.slice ad4 (c.sems.length + 1) cp4)) rfl rfl (.slice au1 c.groups.length pu1)) rfl rfl (.slice au2 c.barriers.length pu2)) (by decide) (.slice au3 c.rooms.length pu3)).setB (w.heap.size + 1) 4 (set_at (a := ⟨w.heap.size + 1, 3, none⟩) (set_at (a := ⟨w.heap.size + 1, 2, none⟩) (set_at (a := ⟨w.heap.size + 1, 1, none⟩) (set_at (a := ⟨w.heap.size + 1, 0, none⟩) (set_off (a := ⟨w1.heap.size, 0, none⟩) Xres_4.out (by first | omega | (simp only [szA, szS, szD, World.heap_drewN] at * <;> omega)) (.slice ad4 (c.sems.length + 1) cp4)) rfl rfl (.slice ad4 (c.sems.length + 1) cp4)) rfl rfl (.slice au1 c.groups.length pu1)) rfl rfl (.slice au2 c.barriers.length pu2)) rfl rfl (.slice au3 c.rooms.length pu3)) (by decide) (.slice au4 c.threads.length pu4)) ((((((Ou2_4.out.setB (w1.heap.size) 0 Xout_4.out (by decide) (.slice ad4 (c.sems.length + 1) cp4)).setB (w.heap.size + 1) 0 (set_off (a := ⟨w1.heap.size, 0, none⟩) Xres_4.out (by first | omega | (simp only [szA, szS, szD, World.heap_drewN] at * <;> omega)) (.slice ad4 (c.sems.length + 1) cp4)) (by decide) (.slice ad4 (c.sems.length + 1) cp4)).setB (w.heap.size + 1) 1 (set_at (a := ⟨w.heap.size + 1, 0, none⟩) (set_off (a := ⟨w1.heap.size, 0, none⟩) Xres_4.out (by first | omega | (simp only [szA, szS, szD, World.heap_drewN] at * <;> omega)) (.slice ad4 (c.sems.length + 1) cp4)) rfl rfl (.slice ad4 (c.sems.length + 1) cp4)) (by decide) (.slice au1 c.groups.length pu1)).setB (w.heap.size + 1) 2 (set_at (a := ⟨w.heap.size + 1, 1, none⟩) (set_at (a := ⟨w.heap.size + 1, 0, none⟩) (set_off (a := ⟨w1.heap.size, 0, none⟩) Xres_4.out (by first | omega | (simp only [szA, szS, szD, World.heap_drewN] at * <;> omega)) (.slice ad4 (c.sems.length + 1) cp4)) rfl rfl (.slice ad4 (c.sems.length + 1) cp4)) rfl rfl (.slice au1 c.groups.length pu1)) (by decide) (.slice au2 c.barriers.length pu2)).setB (w.heap.size + 1) 3 (set_at (a := ⟨w.heap.size + 1, 2, none⟩) (set_at (a := ⟨w.heap.size + 1, 1, none⟩) (set_at (a := ⟨w.heap.size + 1, 0, none⟩) (set_off (a := ⟨w1.heap.size, 0, none⟩) Xres_4.out (by first | omega | (simp only [szA, szS, szD, World.heap_drewN] at * <;> omega)) (.slice ad4 (c.sems.length + 1) cp4)) rfl rfl (.slice ad4 (c.sems.length + 1) cp4)) rfl rfl (.slice au1 c.groups.length pu1)) rfl rfl (.slice au2 c.barriers.length pu2)) (by decide) (.slice au3 c.rooms.length pu3)).setB (w.heap.size + 1) 4 (set_at (a := ⟨w.heap.size + 1, 3, none⟩) (set_at (a := ⟨w.heap.size + 1, 2, none⟩) (set_at (a := ⟨w.heap.size + 1, 1, none⟩) (set_at (a := ⟨w.heap.size + 1, 0, none⟩) (set_off (a := ⟨w1.heap.size, 0, none⟩) Xres_4.out (by first | omega | (simp only [szA, szS, szD, World.heap_drewN] at * <;> omega)) (.slice ad4 (c.sems.length + 1) cp4)) rfl rfl (.slice ad4 (c.sems.length + 1) cp4)) rfl rfl (.slice au1 c.groups.length pu1)) rfl rfl (.slice au2 c.barriers.length pu2)) rfl rfl (.slice au3 c.rooms.length pu3)) (by decide) (.slice au4 c.threads.length pu4)) ((((((Ou3_4.out.setB (w1.heap.size) 0 Xout_4.out (by decide) (.slice ad4 (c.sems.length + 1) cp4)).setB (w.heap.size + 1) 0 (set_off (a := ⟨w1.heap.size, 0, none⟩) Xres_4.out (by first | omega | (simp only [szA, szS, szD, World.heap_drewN] at * <;> omega)) (.slice ad4 (c.sems.length + 1) cp4)) (by decide) (.slice ad4 (c.sems.length + 1) cp4)).setB (w.heap.size + 1) 1 (set_at (a := ⟨w.heap.size + 1, 0, none⟩) (set_off (a := ⟨w1.heap.size, 0, none⟩) Xres_4.out (by first | omega | (simp only [szA, szS, szD, World.heap_drewN] at * <;> omega)) (.slice ad4 (c.sems.length + 1) cp4)) rfl rfl (.slice ad4 (c.sems.length + 1) cp4)) (by decide) (.slice au1 c.groups.length pu1)).setB (w.heap.size + 1) 2 (set_at (a := ⟨w.heap.size + 1, 1, none⟩) (set_at (a := ⟨w.heap.size + 1, 0, none⟩) (set_off (a := ⟨w1.heap.size, 0, none⟩) Xres_4.out (by first | omega | (simp only [szA, szS, szD, World.heap_drewN] at * <;> omega)) (.slice ad4 (c.sems.length + 1) cp4)) rfl rfl (.slice ad4 (c.sems.length + 1) cp4)) rfl rfl (.slice au1 c.groups.length pu1)) (by decide) (.slice au2 c.barriers.length pu2)).setB (w.heap.size + 1) 3 (set_at (a := ⟨w.heap.size + 1, 2, none⟩) (set_at (a := ⟨w.heap.size + 1, 1, none⟩) (set_at (a := ⟨w.heap.size + 1, 0, none⟩) (set_off (a := ⟨w1.heap.size, 0, none⟩) Xres_4.out (by first | omega | (simp only [szA, szS, szD, World.heap_drewN] at * <;> omega)) (.slice ad4 (c.sems.length + 1) cp4)) rfl rfl (.slice ad4 (c.sems.length + 1) cp4)) rfl rfl (.slice au1 c.groups.length pu1)) rfl rfl (.slice au2 c.barriers.length pu2)) (by decide) (.slice au3 c.rooms.length pu3)).setB (w.heap.size + 1) 4 (set_at (a := ⟨w.heap.size + 1, 3, none⟩) (set_at (a := ⟨w.heap.size + 1, 2, none⟩) (set_at (a := ⟨w.heap.size + 1, 1, none⟩) (set_at (a := ⟨w.heap.size + 1, 0, none⟩) (set_off (a := ⟨w1.heap.size, 0, none⟩) Xres_4.out (by first | omega | (simp only [szA, szS, szD, World.heap_drewN] at * <;> omega)) (.slice ad4 (c.sems.length + 1) cp4)) rfl rfl (.slice ad4 (c.sems.length + 1) cp4)) rfl rfl (.slice au1 c.groups.length pu1)) rfl rfl (.slice au2 c.barriers.length pu2)) rfl rfl (.slice au3 c.rooms.length pu3)) (by decide) (.slice au4 c.threads.length pu4)) ((((((Ou4_4.out.setB (w1.heap.size) 0 Xout_4.out (by decide) (.slice ad4 (c.sems.length + 1) cp4)).setB (w.heap.size + 1) 0 (set_off (a := ⟨w1.heap.size, 0, none⟩) Xres_4.out (by first | omega | (simp only [szA, szS, szD, World.heap_drewN] at * <;> omega)) (.slice ad4 (c.sems.length + 1) cp4)) (by decide) (.slice ad4 (c.sems.length + 1) cp4)).setB (w.heap.size + 1) 1 (set_at (a := ⟨w.heap.size + 1, 0, none⟩) (set_off (a := ⟨w1.heap.size, 0, none⟩) Xres_4.out (by first | omega | (simp only [szA, szS, szD, World.heap_drewN] at * <;> omega)) (.slice ad4 (c.sems.length + 1) cp4)) rfl rfl (.slice ad4 (c.sems.length + 1) cp4)) (by decide) (.slice au1 c.groups.length pu1)).setB (w.heap.size + 1) 2 (set_at (a := ⟨w.heap.size + 1, 1, none⟩) (set_at (a := ⟨w.heap.size + 1, 0, none⟩) (set_off (a := ⟨w1.heap.size, 0, none⟩) Xres_4.out (by first | omega | (simp only [szA, szS, szD, World.heap_drewN] at * <;> omega)) (.slice ad4 (c.sems.length + 1) cp4)) rfl rfl (.slice ad4 (c.sems.length + 1) cp4)) rfl rfl (.slice au1 c.groups.length pu1)) (by decide) (.slice au2 c.barriers.length pu2)).setB (w.heap.size + 1) 3 (set_at (a := ⟨w.heap.size + 1, 2, none⟩) (set_at (a := ⟨w.heap.size + 1, 1, none⟩) (set_at (a := ⟨w.heap.size + 1, 0, none⟩) (set_off (a := ⟨w1.heap.size, 0, none⟩) Xres_4.out (by first | omega | (simp only [szA, szS, szD, World.heap_drewN] at * <;> omega)) (.slice ad4 (c.sems.length + 1) cp4)) rfl rfl (.slice ad4 (c.sems.length + 1) cp4)) rfl rfl (.slice au1 c.groups.length pu1)) rfl rfl (.slice au2 c.barriers.length pu2)) (by decide) (.slice au3 c.rooms.length pu3)).setB (w.heap.size + 1) 4 (set_at (a := ⟨w.heap.size + 1, 3, none⟩) (set_at (a := ⟨w.heap.size + 1, 2, none⟩) (set_at (a := ⟨w.heap.size + 1, 1, none⟩) (set_at (a := ⟨w.heap.size + 1, 0, none⟩) (set_off (a := ⟨w1.heap.size, 0, none⟩) Xres_4.out (by first | omega | (simp only [szA, szS, szD, World.heap_drewN] at * <;> omega)) (.slice ad4 (c.sems.length + 1) cp4)) rfl rfl (.slice ad4 (c.sems.length + 1) cp4)) rfl rfl (.slice au1 c.groups.length pu1)) rfl rfl (.slice au2 c.barriers.length pu2)) rfl rfl (.slice au3 c.rooms.length pu3)) (by decide) (.slice au4 c.threads.length pu4)))
    · exact HF.out.upd (by first | (show _ ≤ _; omega) | (simp only [List.length_append, List.length_singleton]; omega) | simp) (by first | (show _ ≤ _; omega) | (simp only [List.length_append, List.length_singleton]; omega) | simp) (by first | (show _ ≤ _; omega) | (simp only [List.length_append, List.length_singleton]; omega) | simp) (by first | (show _ ≤ _; omega) | (simp only [List.length_append, List.length_singleton]; omega) | simp) (by first | (show _ ≤ _; omega) | (simp only [List.length_append, List.length_singleton]; omega) | simp) (fun t ht => .inl ht)
    · exact Dr.mono ((((((A4.out.set (a := ⟨w1.heap.size, 0, none⟩) (by first | omega | (simp only [szA, szS, szD, World.heap_drewN] at * <;> omega)) (.slice ad4 (c.sems.length + 1) cp4)).set (a := ⟨w.heap.size + 1, 0, none⟩) (by first | omega | (simp only [szA, szS, szD, World.heap_drewN] at * <;> omega)) (.slice ad4 (c.sems.length + 1) cp4)).set (a := ⟨w.heap.size + 1, 1, none⟩) (by first | omega | (simp only [szA, szS, szD, World.heap_drewN] at * <;> omega)) (.slice au1 c.groups.length pu1)).set (a := ⟨w.heap.size + 1, 2, none⟩) (by first | omega | (simp only [szA, szS, szD, World.heap_drewN] at * <;> omega)) (.slice au2 c.barriers.length pu2)).set (a := ⟨w.heap.size + 1, 3, none⟩) (by first | omega | (simp only [szA, szS, szD, World.heap_drewN] at * <;> omega)) (.slice au3 c.rooms.length pu3)).set (a := ⟨w.heap.size + 1, 4, none⟩) (by first | omega | (simp only [szA, szS, szD, World.heap_drewN] at * <;> omega)) (.slice au4 c.threads.length pu4)) (by omega)
  · have e0 : (x == 0) = false := beq_false_of_ne h0
    by_cases h1 : x = 1
    · subst h1
      go_wp2_with (fail)
      have hN0 : w2.heap.size ≤ w2.heap.size := (by first | omega | (simp only [szA, szS, szD, World.heap_drewN] at * <;> omega))
      refine wp_region_T [⟨0, false, [], fun _ v _ => v = .pointer (some ⟨w1.heap.size, 4, none⟩)⟩, ⟨1, false, [0], fun _ v _ => v = .slice au4 c.threads.length pu4⟩, ⟨2, false, [], fun _ v _ => v = .pointer (some ⟨b, 0, none⟩)⟩, ⟨3, false, [], fun _ v w' => ∃ g, v = .slice (some ⟨g, 0, none⟩) 3 3 ∧ w.heap.size ≤ g ∧ w'.heap[g]? = some (.cells #[.int .i64 11, .int .i64 0, .int .i64 2] 3 (0, 0))⟩, ⟨4, false, [2, 3], fun _ v _ => ∃ x : Int, v = .int .i64 x ∧ 0 ≤ x ∧ x ≤ 11⟩, ⟨5, false, [], fun _ v _ => v = .pointer (some ⟨b, 0, none⟩)⟩, ⟨6, false, [5], fun _ v _ => ∃ x : Int, v = .int .i64 x ∧ 0 ≤ x ∧ x < 4⟩, ⟨7, false, [], fun _ v _ => v = .pointer (some ⟨b, 0, none⟩)⟩, ⟨8, false, [7], fun _ v _ => ∃ x : Int, v = .int .i64 x ∧ 0 ≤ x ∧ x < 3⟩, ⟨9, false, [2, 3, 4, 5, 6, 7, 8], fun u v _ => v = .agg #[u 4, u 6, u 8]⟩, ⟨10, false, [2, 3, 4, 5, 6, 7, 8, 9], fun u v w' => ∃ g y0 y1 y2, u 4 = .int .i64 y0 ∧ u 6 = .int .i64 y1 ∧ u 8 = .int .i64 y2 ∧ v = .slice (some ⟨g, 0, none⟩) 1 1 ∧ w.heap.size ≤ g ∧ w'.heap[g]? = some (.cells #[.int .i64 y0, .int .i64 y1, .int .i64 y2] 36 (0, 0))⟩, ⟨11, false, [2, 3, 4, 5, 6, 7, 8, 9, 10], fun u v w' => ∃ g g', u 10 = .slice (some ⟨g', 0, none⟩) 1 1 ∧ v = .slice (some ⟨g, 0, none⟩) 1 1 ∧ w.heap.size ≤ g ∧ w'.heap[g]? = some (.cells #[.slice (some ⟨g', 0, none⟩) 1 1] 47 (0, 0))⟩] [(0, some 22), (1, some 23), (2, some 24), (3, some 25), (4, some 26), (5, some 27), (6, some 28), (7, some 29), (8, some 30), (9, some 31), (10, some 32), (11, some 33)] (fun f w' => Dr w b ((N + 1) + (15 - f)) w' ∧ w2.heap.size ≤ w'.heap.size ∧ w'.heap[w1.heap.size]? = some (.cells #[.slice au0 c.sems.length pu0, .slice au1 c.groups.length pu1, .slice au2 c.barriers.length pu2, .slice au3 c.rooms.length pu3, .slice au4 c.threads.length pu4] 30 (0, 0)) ∧ w'.heap[w.heap.size + 1]? = some (.cells #[.slice none 0 0, .slice none 0 0, .slice none 0 0, .slice none 0 0, .slice none 0 0] 30 (0, 0)) ∧ Own w.heap.size 3 1 encI w' (.slice au0 c.sems.length pu0) c.sems ∧ Own w.heap.size 3 1 encI w' (.slice au1 c.groups.length pu1) c.groups ∧ Own w.heap.size 3 1 encI w' (.slice au2 c.barriers.length pu2) c.barriers ∧ Own w.heap.size 3 1 encI w' (.slice au3 c.rooms.length pu3) c.rooms ∧ TTOwn w.heap.size w' (.slice au4 c.threads.length pu4) c.threads) (fun _ w1 w2 => w1.grownBy w2 (some b)) (by kernel_rfl) (by rfl) (by kernel_rfl) (by kernel_rfl) ⟨Dr.mono A2.out.drew (by omega), hN0, heap_drew Xout_2.out, heap_drew Xres_2.out, Ou0_2.out, Ou1_2.out, Ou2_2.out, Ou3_2.out, Ou4_2.out⟩ (GoalsL.cons ?_ (GoalsL.cons ?_ (GoalsL.cons ?_ (GoalsL.cons ?_ (GoalsL.cons ?_ (GoalsL.cons ?_ (GoalsL.cons ?_ (GoalsL.cons ?_ (GoalsL.cons ?_ (GoalsL.cons ?_ (GoalsL.cons ?_ (GoalsL.cons ?_ (GoalsL.nil))))))))))))) ?_
      · refine GoalL.mk (by rfl) (⟨fun _ _ _ _ _ h => h, fun _ _ _ _ _ _ h => h⟩) ?_
        intro f u wq hf hC hD K hK
        replace hf : f < 15 := hf
        have hA := hC.1; have hN := hC.2.1; have hout := hC.2.2.1; have hres := hC.2.2.2.1; have ou0 := hC.2.2.2.2.1; have ou1 := hC.2.2.2.2.2.1; have ou2 := hC.2.2.2.2.2.2.1; have ou3 := hC.2.2.2.2.2.2.2.1; have ou4 := hC.2.2.2.2.2.2.2.2; clear hC
        clear hD
        simp only [putL, Act.put, List.setIfInBounds_toArray, List.set_cons_zero, List.set_cons_succ] at hK ⊢
        refine Closed.mk ?_
        go_simp
        exact hK.out _ _ ⟨hA.mono (by omega), hN, hout, hres, ou0, ou1, ou2, ou3, ou4⟩ (World.grownBy.refl _ _) rfl
      · refine GoalL.mk (by rfl) (⟨fun _ _ _ _ _ h => h, fun _ _ _ _ _ _ h => h⟩) ?_
        intro f u wq hf hC hD K hK
        replace hf : f < 15 := hf
        have hA := hC.1; have hN := hC.2.1; have hout := hC.2.2.1; have hres := hC.2.2.2.1; have ou0 := hC.2.2.2.2.1; have ou1 := hC.2.2.2.2.2.1; have ou2 := hC.2.2.2.2.2.2.1; have ou3 := hC.2.2.2.2.2.2.2.1; have ou4 := hC.2.2.2.2.2.2.2.2; clear hC
        have d0 := hD.1; clear hD
        have q0 : u 0 = .pointer (some ⟨w1.heap.size, 4, none⟩) := d0
        have e0 := q0; clear q0
        clear d0
        simp only [putL, Act.put, List.setIfInBounds_toArray, List.set_cons_zero, List.set_cons_succ, e0] at hK ⊢
        obtain ⟨cout_0, cout_1, cout_2, cout_3, cout_4, fout_0, fout_1, fout_2, fout_3, fout_4⟩ := box5 hout
        refine Closed.mk ?_
        go_simp
        exact hK.out _ _ ⟨hA.mono (by omega), hN, hout, hres, ou0, ou1, ou2, ou3, ou4⟩ (World.grownBy.refl _ _) rfl
      · refine GoalL.mk (by rfl) (⟨fun _ _ _ _ _ h => h, fun _ _ _ _ _ _ h => h⟩) ?_
        intro f u wq hf hC hD K hK
        replace hf : f < 15 := hf
        have hA := hC.1; have hN := hC.2.1; have hout := hC.2.2.1; have hres := hC.2.2.2.1; have ou0 := hC.2.2.2.2.1; have ou1 := hC.2.2.2.2.2.1; have ou2 := hC.2.2.2.2.2.2.1; have ou3 := hC.2.2.2.2.2.2.2.1; have ou4 := hC.2.2.2.2.2.2.2.2; clear hC
        clear hD
        simp only [putL, Act.put, List.setIfInBounds_toArray, List.set_cons_zero, List.set_cons_succ] at hK ⊢
        refine Closed.mk ?_
        go_simp
        exact hK.out _ _ ⟨hA.mono (by omega), hN, hout, hres, ou0, ou1, ou2, ou3, ou4⟩ (World.grownBy.refl _ _) rfl
      · refine GoalL.mk (by rfl) (⟨fun _ _ _ _ hR ⟨g, h1, h2, h3⟩ => ⟨g, h1, h2, grown_at hR h3 (by omega)⟩, fun _ => fun _ _ _ _ hR ⟨g, h1, h2, h3⟩ => ⟨g, h1, h2, grown_at hR h3 (by omega)⟩⟩) ?_
        intro f u wq hf hC hD K hK
        replace hf : f < 15 := hf
        have hA := hC.1; have hN := hC.2.1; have hout := hC.2.2.1; have hres := hC.2.2.2.1; have ou0 := hC.2.2.2.2.1; have ou1 := hC.2.2.2.2.2.1; have ou2 := hC.2.2.2.2.2.2.1; have ou3 := hC.2.2.2.2.2.2.2.1; have ou4 := hC.2.2.2.2.2.2.2.2; clear hC
        clear hD
        simp only [putL, Act.put, List.setIfInBounds_toArray, List.set_cons_zero, List.set_cons_succ] at hK ⊢
        refine Closed.mk ?_
        go_simp
        exact hK.out _ _ ⟨(hA.alloc _).mono (by omega), Nat.le_trans hN (alloc_le _ _), (heap_up hout), (heap_up hres), (ou0.alloc _), (ou1.alloc _), (ou2.alloc _), (ou3.alloc _), (ou4.alloc _)⟩ (World.grownBy_alloc _ _ _) ⟨_, rfl, by have := hA.size; omega, heap_at _ _⟩
      · refine GoalL.mk (by rfl) (⟨fun _ _ _ _ _ h => h, fun _ _ _ _ _ _ h => h⟩) ?_
        intro f u wq hf hC hD K hK
        replace hf : f < 15 := hf
        have hA := hC.1; have hN := hC.2.1; have hout := hC.2.2.1; have hres := hC.2.2.2.1; have ou0 := hC.2.2.2.2.1; have ou1 := hC.2.2.2.2.2.1; have ou2 := hC.2.2.2.2.2.2.1; have ou3 := hC.2.2.2.2.2.2.2.1; have ou4 := hC.2.2.2.2.2.2.2.2; clear hC
        have d2 := hD.1; have d3 := hD.2.1; clear hD
        have q2 : u 2 = .pointer (some ⟨b, 0, none⟩) := d2
        have e2 := q2; clear q2
        clear d2
        have q3 : ∃ g, u 3 = .slice (some ⟨g, 0, none⟩) 3 3 ∧ w.heap.size ≤ g ∧ wq.heap[g]? = some (.cells #[.int .i64 11, .int .i64 0, .int .i64 2] 3 (0, 0)) := d3
        obtain ⟨g3, e3, q3a, q3b⟩ := q3
        clear d3
        simp only [putL, Act.put, List.setIfInBounds_toArray, List.set_cons_zero, List.set_cons_succ, e2, e3] at hK ⊢
        refine Closed.mk ?_
        go_simp
        refine (numD b ((N + 1) + (15 - (f + 1))) _ [11, 0, 2] w _ hA (by omega) (lit_at q3b rfl) (by decide) (by simp [Value.ownBlock]; omega)).mono ?_
        rintro e w2 ⟨x, rfl, hx, hd⟩
        have hxb : 0 ≤ x ∧ x ≤ 11 := by simp at hx; omega
        exact hK.out _ _ ⟨(hA.then hd).mono (by omega), Nat.le_trans hN hd.size, (hd.at_ hout (by omega)), (hd.at_ hres (by omega)), (ou0.past hd.g hlt), (ou1.past hd.g hlt), (ou2.past hd.g hlt), (ou3.past hd.g hlt), (ou4.past hd.g hlt)⟩ hd.g ⟨x, rfl, hxb.1, hxb.2⟩
      · refine GoalL.mk (by rfl) (⟨fun _ _ _ _ _ h => h, fun _ _ _ _ _ _ h => h⟩) ?_
        intro f u wq hf hC hD K hK
        replace hf : f < 15 := hf
        have hA := hC.1; have hN := hC.2.1; have hout := hC.2.2.1; have hres := hC.2.2.2.1; have ou0 := hC.2.2.2.2.1; have ou1 := hC.2.2.2.2.2.1; have ou2 := hC.2.2.2.2.2.2.1; have ou3 := hC.2.2.2.2.2.2.2.1; have ou4 := hC.2.2.2.2.2.2.2.2; clear hC
        clear hD
        simp only [putL, Act.put, List.setIfInBounds_toArray, List.set_cons_zero, List.set_cons_succ] at hK ⊢
        refine Closed.mk ?_
        go_simp
        exact hK.out _ _ ⟨hA.mono (by omega), hN, hout, hres, ou0, ou1, ou2, ou3, ou4⟩ (World.grownBy.refl _ _) rfl
      · refine GoalL.mk (by rfl) (⟨fun _ _ _ _ _ h => h, fun _ _ _ _ _ _ h => h⟩) ?_
        intro f u wq hf hC hD K hK
        replace hf : f < 15 := hf
        have hA := hC.1; have hN := hC.2.1; have hout := hC.2.2.1; have hres := hC.2.2.2.1; have ou0 := hC.2.2.2.2.1; have ou1 := hC.2.2.2.2.2.1; have ou2 := hC.2.2.2.2.2.2.1; have ou3 := hC.2.2.2.2.2.2.2.1; have ou4 := hC.2.2.2.2.2.2.2.2; clear hC
        have d5 := hD.1; clear hD
        have q5 : u 5 = .pointer (some ⟨b, 0, none⟩) := d5
        have e5 := q5; clear q5
        clear d5
        simp only [putL, Act.put, List.setIfInBounds_toArray, List.set_cons_zero, List.set_cons_succ, e5] at hK ⊢
        refine Closed.mk ?_
        go_simp
        refine (pickD b ((N + 1) + (15 - (f + 1))) 4 w _ hA (by omega) (by decide)).mono ?_
        rintro e w2 ⟨x, rfl, hx0, hx1, hd⟩
        exact hK.out _ _ ⟨(hA.then hd).mono (by omega), Nat.le_trans hN hd.size, (hd.at_ hout (by omega)), (hd.at_ hres (by omega)), (ou0.past hd.g hlt), (ou1.past hd.g hlt), (ou2.past hd.g hlt), (ou3.past hd.g hlt), (ou4.past hd.g hlt)⟩ hd.g ⟨x, rfl, hx0, by omega⟩
      · refine GoalL.mk (by rfl) (⟨fun _ _ _ _ _ h => h, fun _ _ _ _ _ _ h => h⟩) ?_
        intro f u wq hf hC hD K hK
        replace hf : f < 15 := hf
        have hA := hC.1; have hN := hC.2.1; have hout := hC.2.2.1; have hres := hC.2.2.2.1; have ou0 := hC.2.2.2.2.1; have ou1 := hC.2.2.2.2.2.1; have ou2 := hC.2.2.2.2.2.2.1; have ou3 := hC.2.2.2.2.2.2.2.1; have ou4 := hC.2.2.2.2.2.2.2.2; clear hC
        clear hD
        simp only [putL, Act.put, List.setIfInBounds_toArray, List.set_cons_zero, List.set_cons_succ] at hK ⊢
        refine Closed.mk ?_
        go_simp
        exact hK.out _ _ ⟨hA.mono (by omega), hN, hout, hres, ou0, ou1, ou2, ou3, ou4⟩ (World.grownBy.refl _ _) rfl
      · refine GoalL.mk (by rfl) (⟨fun _ _ _ _ _ h => h, fun _ _ _ _ _ _ h => h⟩) ?_
        intro f u wq hf hC hD K hK
        replace hf : f < 15 := hf
        have hA := hC.1; have hN := hC.2.1; have hout := hC.2.2.1; have hres := hC.2.2.2.1; have ou0 := hC.2.2.2.2.1; have ou1 := hC.2.2.2.2.2.1; have ou2 := hC.2.2.2.2.2.2.1; have ou3 := hC.2.2.2.2.2.2.2.1; have ou4 := hC.2.2.2.2.2.2.2.2; clear hC
        have d7 := hD.1; clear hD
        have q7 : u 7 = .pointer (some ⟨b, 0, none⟩) := d7
        have e7 := q7; clear q7
        clear d7
        simp only [putL, Act.put, List.setIfInBounds_toArray, List.set_cons_zero, List.set_cons_succ, e7] at hK ⊢
        refine Closed.mk ?_
        go_simp
        refine (pickD b ((N + 1) + (15 - (f + 1))) 3 w _ hA (by omega) (by decide)).mono ?_
        rintro e w2 ⟨x, rfl, hx0, hx1, hd⟩
        exact hK.out _ _ ⟨(hA.then hd).mono (by omega), Nat.le_trans hN hd.size, (hd.at_ hout (by omega)), (hd.at_ hres (by omega)), (ou0.past hd.g hlt), (ou1.past hd.g hlt), (ou2.past hd.g hlt), (ou3.past hd.g hlt), (ou4.past hd.g hlt)⟩ hd.g ⟨x, rfl, hx0, by omega⟩
      · refine GoalL.mk (by rfl) (⟨fun _ _ _ _ _ h => h, fun _ _ _ _ _ _ h => h⟩) ?_
        intro f u wq hf hC hD K hK
        replace hf : f < 15 := hf
        have hA := hC.1; have hN := hC.2.1; have hout := hC.2.2.1; have hres := hC.2.2.2.1; have ou0 := hC.2.2.2.2.1; have ou1 := hC.2.2.2.2.2.1; have ou2 := hC.2.2.2.2.2.2.1; have ou3 := hC.2.2.2.2.2.2.2.1; have ou4 := hC.2.2.2.2.2.2.2.2; clear hC
        have d2 := hD.1; have d3 := hD.2.1; have d4 := hD.2.2.1; have d5 := hD.2.2.2.1; have d6 := hD.2.2.2.2.1; have d7 := hD.2.2.2.2.2.1; have d8 := hD.2.2.2.2.2.2.1; clear hD
        have q2 : u 2 = .pointer (some ⟨b, 0, none⟩) := d2
        have e2 := q2; clear q2
        clear d2
        have q3 : ∃ g, u 3 = .slice (some ⟨g, 0, none⟩) 3 3 ∧ w.heap.size ≤ g ∧ wq.heap[g]? = some (.cells #[.int .i64 11, .int .i64 0, .int .i64 2] 3 (0, 0)) := d3
        obtain ⟨g3, e3, q3a, q3b⟩ := q3
        clear d3
        have q4 : ∃ x : Int, u 4 = .int .i64 x ∧ 0 ≤ x ∧ x ≤ 11 := d4
        obtain ⟨x4, e4, q4a, q4b⟩ := q4
        clear d4
        have q5 : u 5 = .pointer (some ⟨b, 0, none⟩) := d5
        have e5 := q5; clear q5
        clear d5
        have q6 : ∃ x : Int, u 6 = .int .i64 x ∧ 0 ≤ x ∧ x < 4 := d6
        obtain ⟨x6, e6, q6a, q6b⟩ := q6
        clear d6
        have q7 : u 7 = .pointer (some ⟨b, 0, none⟩) := d7
        have e7 := q7; clear q7
        clear d7
        have q8 : ∃ x : Int, u 8 = .int .i64 x ∧ 0 ≤ x ∧ x < 3 := d8
        obtain ⟨x8, e8, q8a, q8b⟩ := q8
        clear d8
        simp only [putL, Act.put, List.setIfInBounds_toArray, List.set_cons_zero, List.set_cons_succ, e2, e3, e4, e5, e6, e7, e8] at hK ⊢
        refine Closed.mk ?_
        go_simp
        exact hK.out _ _ ⟨hA.mono (by omega), hN, hout, hres, ou0, ou1, ou2, ou3, ou4⟩ (World.grownBy.refl _ _) (by simp [mask, e4, e6, e8])
      · refine GoalL.mk (by rfl) (⟨fun _ _ _ _ hR ⟨g, y0, y1, y2, h00, h01, h02, h1, h2, h3⟩ => ⟨g, y0, y1, y2, h00, h01, h02, h1, h2, grown_at hR h3 (by omega)⟩, fun _ => fun _ _ _ _ hR ⟨g, y0, y1, y2, h00, h01, h02, h1, h2, h3⟩ => ⟨g, y0, y1, y2, h00, h01, h02, h1, h2, grown_at hR h3 (by omega)⟩⟩) ?_
        intro f u wq hf hC hD K hK
        replace hf : f < 15 := hf
        have hA := hC.1; have hN := hC.2.1; have hout := hC.2.2.1; have hres := hC.2.2.2.1; have ou0 := hC.2.2.2.2.1; have ou1 := hC.2.2.2.2.2.1; have ou2 := hC.2.2.2.2.2.2.1; have ou3 := hC.2.2.2.2.2.2.2.1; have ou4 := hC.2.2.2.2.2.2.2.2; clear hC
        have d2 := hD.1; have d3 := hD.2.1; have d4 := hD.2.2.1; have d5 := hD.2.2.2.1; have d6 := hD.2.2.2.2.1; have d7 := hD.2.2.2.2.2.1; have d8 := hD.2.2.2.2.2.2.1; have d9 := hD.2.2.2.2.2.2.2.1; clear hD
        have q2 : u 2 = .pointer (some ⟨b, 0, none⟩) := d2
        have e2 := q2; clear q2
        clear d2
        have q3 : ∃ g, u 3 = .slice (some ⟨g, 0, none⟩) 3 3 ∧ w.heap.size ≤ g ∧ wq.heap[g]? = some (.cells #[.int .i64 11, .int .i64 0, .int .i64 2] 3 (0, 0)) := d3
        obtain ⟨g3, e3, q3a, q3b⟩ := q3
        clear d3
        have q4 : ∃ x : Int, u 4 = .int .i64 x ∧ 0 ≤ x ∧ x ≤ 11 := d4
        obtain ⟨x4, e4, q4a, q4b⟩ := q4
        clear d4
        have q5 : u 5 = .pointer (some ⟨b, 0, none⟩) := d5
        have e5 := q5; clear q5
        clear d5
        have q6 : ∃ x : Int, u 6 = .int .i64 x ∧ 0 ≤ x ∧ x < 4 := d6
        obtain ⟨x6, e6, q6a, q6b⟩ := q6
        clear d6
        have q7 : u 7 = .pointer (some ⟨b, 0, none⟩) := d7
        have e7 := q7; clear q7
        clear d7
        have q8 : ∃ x : Int, u 8 = .int .i64 x ∧ 0 ≤ x ∧ x < 3 := d8
        obtain ⟨x8, e8, q8a, q8b⟩ := q8
        clear d8
        have q9 : u 9 = .agg #[u 4, u 6, u 8] := d9
        have e9 := q9; clear q9
        rw [e4, e6, e8] at e9
        clear d9
        simp only [putL, Act.put, List.setIfInBounds_toArray, List.set_cons_zero, List.set_cons_succ, e2, e3, e4, e5, e6, e7, e8, e9] at hK ⊢
        refine Closed.mk ?_
        go_simp
        exact hK.out _ _ ⟨(hA.alloc _).mono (by omega), Nat.le_trans hN (alloc_le _ _), (heap_up hout), (heap_up hres), (ou0.alloc _), (ou1.alloc _), (ou2.alloc _), (ou3.alloc _), (ou4.alloc _)⟩ (World.grownBy_alloc _ _ _) ⟨_, x4, x6, x8, (by simp [mask, e4]), (by simp [mask, e6]), (by simp [mask, e8]), rfl, by have := hA.size; omega, heap_at _ _⟩
      · refine GoalL.mk (by rfl) (⟨fun _ _ _ _ hR ⟨g, y, h0, h1, h2, h3⟩ => ⟨g, y, h0, h1, h2, grown_at hR h3 (by omega)⟩, fun _ => fun _ _ _ _ hR ⟨g, y, h0, h1, h2, h3⟩ => ⟨g, y, h0, h1, h2, grown_at hR h3 (by omega)⟩⟩) ?_
        intro f u wq hf hC hD K hK
        replace hf : f < 15 := hf
        have hA := hC.1; have hN := hC.2.1; have hout := hC.2.2.1; have hres := hC.2.2.2.1; have ou0 := hC.2.2.2.2.1; have ou1 := hC.2.2.2.2.2.1; have ou2 := hC.2.2.2.2.2.2.1; have ou3 := hC.2.2.2.2.2.2.2.1; have ou4 := hC.2.2.2.2.2.2.2.2; clear hC
        have d2 := hD.1; have d3 := hD.2.1; have d4 := hD.2.2.1; have d5 := hD.2.2.2.1; have d6 := hD.2.2.2.2.1; have d7 := hD.2.2.2.2.2.1; have d8 := hD.2.2.2.2.2.2.1; have d9 := hD.2.2.2.2.2.2.2.1; have d10 := hD.2.2.2.2.2.2.2.2.1; clear hD
        have q2 : u 2 = .pointer (some ⟨b, 0, none⟩) := d2
        have e2 := q2; clear q2
        clear d2
        have q3 : ∃ g, u 3 = .slice (some ⟨g, 0, none⟩) 3 3 ∧ w.heap.size ≤ g ∧ wq.heap[g]? = some (.cells #[.int .i64 11, .int .i64 0, .int .i64 2] 3 (0, 0)) := d3
        obtain ⟨g3, e3, q3a, q3b⟩ := q3
        clear d3
        have q4 : ∃ x : Int, u 4 = .int .i64 x ∧ 0 ≤ x ∧ x ≤ 11 := d4
        obtain ⟨x4, e4, q4a, q4b⟩ := q4
        clear d4
        have q5 : u 5 = .pointer (some ⟨b, 0, none⟩) := d5
        have e5 := q5; clear q5
        clear d5
        have q6 : ∃ x : Int, u 6 = .int .i64 x ∧ 0 ≤ x ∧ x < 4 := d6
        obtain ⟨x6, e6, q6a, q6b⟩ := q6
        clear d6
        have q7 : u 7 = .pointer (some ⟨b, 0, none⟩) := d7
        have e7 := q7; clear q7
        clear d7
        have q8 : ∃ x : Int, u 8 = .int .i64 x ∧ 0 ≤ x ∧ x < 3 := d8
        obtain ⟨x8, e8, q8a, q8b⟩ := q8
        clear d8
        have q9 : u 9 = .agg #[u 4, u 6, u 8] := d9
        have e9 := q9; clear q9
        rw [e4, e6, e8] at e9
        clear d9
        have q10 : ∃ g y0 y1 y2, u 4 = .int .i64 y0 ∧ u 6 = .int .i64 y1 ∧ u 8 = .int .i64 y2 ∧ u 10 = .slice (some ⟨g, 0, none⟩) 1 1 ∧ w.heap.size ≤ g ∧ wq.heap[g]? = some (.cells #[.int .i64 y0, .int .i64 y1, .int .i64 y2] 36 (0, 0)) := d10
        obtain ⟨g10, y10_4, y10_6, y10_8, z10_4, z10_6, z10_8, e10, q10a, q10b⟩ := q10
        rw [e4] at z10_4
        obtain rfl : x4 = y10_4 := int_inj9 z10_4
        clear z10_4
        rw [e6] at z10_6
        obtain rfl : x6 = y10_6 := int_inj9 z10_6
        clear z10_6
        rw [e8] at z10_8
        obtain rfl : x8 = y10_8 := int_inj9 z10_8
        clear z10_8
        clear d10
        simp only [putL, Act.put, List.setIfInBounds_toArray, List.set_cons_zero, List.set_cons_succ, e2, e3, e4, e5, e6, e7, e8, e9, e10] at hK ⊢
        refine Closed.mk ?_
        go_simp
        exact hK.out _ _ ⟨(hA.alloc _).mono (by omega), Nat.le_trans hN (alloc_le _ _), (heap_up hout), (heap_up hres), (ou0.alloc _), (ou1.alloc _), (ou2.alloc _), (ou3.alloc _), (ou4.alloc _)⟩ (World.grownBy_alloc _ _ _) ⟨_, g10, (by simp [mask, e10]), rfl, by have := hA.size; omega, heap_at _ _⟩
      intro u w3 hC hD
      have hA := hC.1; have hN := hC.2.1; have hout := hC.2.2.1; have hres := hC.2.2.2.1; have ou0 := hC.2.2.2.2.1; have ou1 := hC.2.2.2.2.2.1; have ou2 := hC.2.2.2.2.2.2.1; have ou3 := hC.2.2.2.2.2.2.2.1; have ou4 := hC.2.2.2.2.2.2.2.2; clear hC
      have d0 := hD.1; have d1 := hD.2.1; have d2 := hD.2.2.1; have d3 := hD.2.2.2.1; have d4 := hD.2.2.2.2.1; have d5 := hD.2.2.2.2.2.1; have d6 := hD.2.2.2.2.2.2.1; have d7 := hD.2.2.2.2.2.2.2.1; have d8 := hD.2.2.2.2.2.2.2.2.1; have d9 := hD.2.2.2.2.2.2.2.2.2.1; have d10 := hD.2.2.2.2.2.2.2.2.2.2.1; have d11 := hD.2.2.2.2.2.2.2.2.2.2.2.1; clear hD
      have q0 : u 0 = .pointer (some ⟨w1.heap.size, 4, none⟩) := d0
      have e0 := q0; clear q0
      clear d0
      have q1 : u 1 = .slice au4 c.threads.length pu4 := d1
      have e1 := q1; clear q1
      clear d1
      have q2 : u 2 = .pointer (some ⟨b, 0, none⟩) := d2
      have e2 := q2; clear q2
      clear d2
      have q3 : ∃ g, u 3 = .slice (some ⟨g, 0, none⟩) 3 3 ∧ w.heap.size ≤ g ∧ w3.heap[g]? = some (.cells #[.int .i64 11, .int .i64 0, .int .i64 2] 3 (0, 0)) := d3
      obtain ⟨g3, e3, q3a, q3b⟩ := q3
      clear d3
      have q4 : ∃ x : Int, u 4 = .int .i64 x ∧ 0 ≤ x ∧ x ≤ 11 := d4
      obtain ⟨x4, e4, q4a, q4b⟩ := q4
      clear d4
      have q5 : u 5 = .pointer (some ⟨b, 0, none⟩) := d5
      have e5 := q5; clear q5
      clear d5
      have q6 : ∃ x : Int, u 6 = .int .i64 x ∧ 0 ≤ x ∧ x < 4 := d6
      obtain ⟨x6, e6, q6a, q6b⟩ := q6
      clear d6
      have q7 : u 7 = .pointer (some ⟨b, 0, none⟩) := d7
      have e7 := q7; clear q7
      clear d7
      have q8 : ∃ x : Int, u 8 = .int .i64 x ∧ 0 ≤ x ∧ x < 3 := d8
      obtain ⟨x8, e8, q8a, q8b⟩ := q8
      clear d8
      have q9 : u 9 = .agg #[u 4, u 6, u 8] := d9
      have e9 := q9; clear q9
      rw [e4, e6, e8] at e9
      clear d9
      have q10 : ∃ g y0 y1 y2, u 4 = .int .i64 y0 ∧ u 6 = .int .i64 y1 ∧ u 8 = .int .i64 y2 ∧ u 10 = .slice (some ⟨g, 0, none⟩) 1 1 ∧ w.heap.size ≤ g ∧ w3.heap[g]? = some (.cells #[.int .i64 y0, .int .i64 y1, .int .i64 y2] 36 (0, 0)) := d10
      obtain ⟨g10, y10_4, y10_6, y10_8, z10_4, z10_6, z10_8, e10, q10a, q10b⟩ := q10
      rw [e4] at z10_4
      obtain rfl : x4 = y10_4 := int_inj9 z10_4
      clear z10_4
      rw [e6] at z10_6
      obtain rfl : x6 = y10_6 := int_inj9 z10_6
      clear z10_6
      rw [e8] at z10_8
      obtain rfl : x8 = y10_8 := int_inj9 z10_8
      clear z10_8
      clear d10
      have q11 : ∃ g g', u 10 = .slice (some ⟨g', 0, none⟩) 1 1 ∧ u 11 = .slice (some ⟨g, 0, none⟩) 1 1 ∧ w.heap.size ≤ g ∧ w3.heap[g]? = some (.cells #[.slice (some ⟨g', 0, none⟩) 1 1] 47 (0, 0)) := d11
      obtain ⟨g11, y11, z11, e11, q11a, q11b⟩ := q11
      rw [e10] at z11
      obtain rfl : g10 = y11 := sl_inj9 z11
      clear z11
      clear d11
      replace hA : Dr w b ((N + 1) + (15 - (15 - 12))) w3 := hA
      have A3 : Hid (Dr w b (N + 16) w3) := Lib.hid (hA.mono (by omega))
      have N3 := hN; have S3 := hA.size
      have Xout_3 := Lib.hid hout; clear hout
      have Xres_3 := Lib.hid hres; clear hres
      have Ou0_3 := Lib.hid ou0; clear ou0
      have Ou1_3 := Lib.hid ou1; clear ou1
      have Ou2_3 := Lib.hid ou2; clear ou2
      have Ou3_3 := Lib.hid ou3; clear ou3
      have Ou4_3 := Lib.hid ou4; clear ou4
      obtain ⟨cout3_0, cout3_1, cout3_2, cout3_3, cout3_4, fout3_0, fout3_1, fout3_2, fout3_3, fout3_4⟩ := box5 Xout_3.out; have lout3 := heap_lt Xout_3.out
      obtain ⟨cres3_0, cres3_1, cres3_2, cres3_3, cres3_4, fres3_0, fres3_1, fres3_2, fres3_3, fres3_4⟩ := box5 Xres_3.out; have lres3 := heap_lt Xres_3.out
      clear hA hN hN0
      simp only [putL, Act.put, List.setIfInBounds_toArray, List.set_cons_zero, List.set_cons_succ, e0, e1, e2, e3, e4, e5, e6, e7, e8, e9, e10, e11]
      refine Closed.mk ?_
      change wpAnyH _ _ _ _ _ (2 + 1) _ _ _
      refine one_ready (i := 12) (by kernel_rfl) (by rfl) ?_
      intro K hK
      obtain ⟨us, hus, hin⟩ := Ou4_3.out
      have hul : us.length = c.threads.length := hin.1
      have hus2 : Own w.heap.size 47 1 encS _ (.slice au4 us.length pu4) us := (by rw [hul]; exact hus)
      refine Closed.mk ?_
      refine step_push _ encS_len one_sv (by rfl) _ _ 28 (by rfl) 47 _ 24 Try.underlying28 info_Ops rfl (by decide) w.heap.size (.slice au4 c.threads.length pu4) us (by simp [Act.eval]) hus (by omega) (.slice (some ⟨g11, 0, none⟩) 1 1) [(some ⟨g10, 0, none⟩, 1, 1)] (by simp [Act.eval]) (lit_sv q11b) (by simp) (by decide) (by simp only [List.length_cons, List.length_nil]; omega) ?_
      intro ad4 cp4 w4 hown hg hat
      refine hK.out _ _ (Closed.out ?_)
      obtain ⟨z, hz⟩ : ∃ l, c.threads ++ [[(x4, x6, x8)]] = l := ⟨_, rfl⟩
      have lz' : us.length + [((some ⟨g10, 0, none⟩, 1, 1) : SV)].length = z.length := (by rw [← hz, List.length_append, List.length_singleton, List.length_singleton, hul])
      rw [lz'] at hown
      rw [lz']
      clear hat
      have Xout_4 := Lib.hid (grown_at2 hg Xout_3.out (hus.ne Xout_3.out (by decide)))
      have Xres_4 := Lib.hid (grown_at2 hg Xres_3.out (hus.ne Xres_3.out (by decide)))
      have hli := grown_at2 hg q10b (hus.ne q10b (by decide))
      have Ou0_4 := Lib.hid (Ou0_3.out.apart hg (Own.apart_types hus Ou0_3.out (by decide)))
      have Ou1_4 := Lib.hid (Ou1_3.out.apart hg (Own.apart_types hus Ou1_3.out (by decide)))
      have Ou2_4 := Lib.hid (Ou2_3.out.apart hg (Own.apart_types hus Ou2_3.out (by decide)))
      have Ou3_4 := Lib.hid (Ou3_3.out.apart hg (Own.apart_types hus Ou3_3.out (by decide)))
      have hg2 : World.grownBy w3 w4 (Value.slice au4 us.length pu4).ownBlock := (by rw [hul]; exact hg)
      have Ou4_4 := Lib.hid (TTOwn.more hin hus2 (Own.litT hli (by omega)) (Below.refl _ _) hg2 hz hown)
      have A4 := Lib.hid (Dr.own A3.out hg (fun g e => hus.blk g e))
      have N4 : w3.heap.size ≤ w4.heap.size := hg.size
      have HZ := Lib.hid hz; have KZ := Lib.hid (show z.length = c.threads.length + 1 from (by rw [← hz]; simp)); clear hz lz' hg2 hus2 hin hul hus hown hg hli
      obtain ⟨cout4_0, cout4_1, cout4_2, cout4_3, cout4_4, fout4_0, fout4_1, fout4_2, fout4_3, fout4_4⟩ := box5 Xout_4.out; have lout4 := heap_lt Xout_4.out
      obtain ⟨cres4_0, cres4_1, cres4_2, cres4_3, cres4_4, fres4_0, fres4_1, fres4_2, fres4_3, fres4_4⟩ := box5 Xres_4.out; have lres4 := heap_lt Xres_4.out
      have S4 : w.heap.size ≤ w4.heap.size := by omega
      refine Closed.mk ?_
      refine one_ready (i := 13) (by kernel_rfl) (by rfl) ?_
      intro K2 hK2
      refine Closed.mk ?_
      go_simp
      refine hK2.out _ _ ?_
      refine one_ready (i := 14) (by kernel_rfl) (by rfl) ?_
      intro K3 hK3
      refine Closed.mk ?_
      go_simp
      refine hK3.out _ _ ?_
      refine wpAnyH_done (by kernel_rfl) ?_ _
      have ne_out_res : w1.heap.size ≠ w.heap.size + 1 := by omega
      have nf_out_res := ne_out_res.symm
      go_wp2_with (fail)
      refine bodyPost_ret (v := .agg #[.slice au0 c.sems.length pu0, .slice au1 c.groups.length pu1, .slice au2 c.barriers.length pu2, .slice au3 c.rooms.length pu3, .slice ad4 z.length cp4]) (by simp [results, Try.results51, go_sem, cres4_0, cres4_1, cres4_2, cres4_3, cres4_4, lres4, cout4_0, cout4_1, cout4_2, cout4_3, cout4_4, lout4, ne_out_res, nf_out_res]) rfl ⟨_, ⟨c.sems, c.groups, c.barriers, c.rooms, z⟩, rfl, ?_, ?_, ?_⟩
      · exact (ProgOwn.make ((((((Ou0_4.out.setB (w1.heap.size) 4 Xout_4.out (by decide) (.slice ad4 z.length cp4)).setB (w.heap.size + 1) 0 (set_off (a := ⟨w1.heap.size, 4, none⟩) Xres_4.out (by first | omega | (simp only [szA, szS, szD, World.heap_drewN] at * <;> omega)) (.slice ad4 z.length cp4)) (by decide) (.slice au0 c.sems.length pu0)).setB (w.heap.size + 1) 1 (set_at (a := ⟨w.heap.size + 1, 0, none⟩) (set_off (a := ⟨w1.heap.size, 4, none⟩) Xres_4.out (by first | omega | (simp only [szA, szS, szD, World.heap_drewN] at * <;> omega)) (.slice ad4 z.length cp4)) rfl rfl (.slice au0 c.sems.length pu0)) (by decide) (.slice au1 c.groups.length pu1)).setB (w.heap.size + 1) 2 (set_at (a := ⟨w.heap.size + 1, 1, none⟩) (set_at (a := ⟨w.heap.size + 1, 0, none⟩) (set_off (a := ⟨w1.heap.size, 4, none⟩) Xres_4.out (by first | omega | (simp only [szA, szS, szD, World.heap_drewN] at * <;> omega)) (.slice ad4 z.length cp4)) rfl rfl (.slice au0 c.sems.length pu0)) rfl rfl (.slice au1 c.groups.length pu1)) (by decide) (.slice au2 c.barriers.length pu2)).setB (w.heap.size + 1) 3 (set_at (a := ⟨w.heap.size + 1, 2, none⟩) (set_at (a := ⟨w.heap.size + 1, 1, none⟩) (set_at (a := ⟨w.heap.size + 1, 0, none⟩) (set_off (a := ⟨w1.heap.size, 4, none⟩) Xres_4.out (by first | omega | (simp only [szA, szS, szD, World.heap_drewN] at * <;> omega)) (.slice ad4 z.length cp4)) rfl rfl (.slice au0 c.sems.length pu0)) rfl rfl (.slice au1 c.groups.length pu1)) rfl rfl (.slice au2 c.barriers.length pu2)) (by decide) (.slice au3 c.rooms.length pu3)).setB (w.heap.size + 1) 4 (set_at (a := ⟨w.heap.size + 1, 3, none⟩) (set_at (a := ⟨w.heap.size + 1, 2, none⟩) (set_at (a := ⟨w.heap.size + 1, 1, none⟩) (set_at (a := ⟨w.heap.size + 1, 0, none⟩) (set_off (a := ⟨w1.heap.size, 4, none⟩) Xres_4.out (by first | omega | (simp only [szA, szS, szD, World.heap_drewN] at * <;> omega)) (.slice ad4 z.length cp4)) rfl rfl (.slice au0 c.sems.length pu0)) rfl rfl (.slice au1 c.groups.length pu1)) rfl rfl (.slice au2 c.barriers.length pu2)) rfl rfl (.slice au3 c.rooms.length pu3)) (by decide) (.slice ad4 z.length cp4)) ((((((Ou1_4.out.setB (w1.heap.size) 4 Xout_4.out (by decide) (.slice ad4 z.length cp4)).setB (w.heap.size + 1) 0 (set_off (a := ⟨w1.heap.size, 4, none⟩) Xres_4.out (by first | omega | (simp only [szA, szS, szD, World.heap_drewN] at * <;> omega)) (.slice ad4 z.length cp4)) (by decide) (.slice au0 c.sems.length pu0)).setB (w.heap.size + 1) 1 (set_at (a := ⟨w.heap.size + 1, 0, none⟩) (set_off (a := ⟨w1.heap.size, 4, none⟩) Xres_4.out (by first | omega | (simp only [szA, szS, szD, World.heap_drewN] at * <;> omega)) (.slice ad4 z.length cp4)) rfl rfl (.slice au0 c.sems.length pu0)) (by decide) (.slice au1 c.groups.length pu1)).setB (w.heap.size + 1) 2 (set_at (a := ⟨w.heap.size + 1, 1, none⟩) (set_at (a := ⟨w.heap.size + 1, 0, none⟩) (set_off (a := ⟨w1.heap.size, 4, none⟩) Xres_4.out (by first | omega | (simp only [szA, szS, szD, World.heap_drewN] at * <;> omega)) (.slice ad4 z.length cp4)) rfl rfl (.slice au0 c.sems.length pu0)) rfl rfl (.slice au1 c.groups.length pu1)) (by decide) (.slice au2 c.barriers.length pu2)).setB (w.heap.size + 1) 3 (set_at (a := ⟨w.heap.size + 1, 2, none⟩) (set_at (a := ⟨w.heap.size + 1, 1, none⟩) (set_at (a := ⟨w.heap.size + 1, 0, none⟩) (set_off (a := ⟨w1.heap.size, 4, none⟩) Xres_4.out (by first | omega | (simp only [szA, szS, szD, World.heap_drewN] at * <;> omega)) (.slice ad4 z.length cp4)) rfl rfl (.slice au0 c.sems.length pu0)) rfl rfl (.slice au1 c.groups.length pu1)) rfl rfl (.slice au2 c.barriers.length pu2)) (by decide) (.slice au3 c.rooms.length pu3)).setB (w.heap.size + 1) 4 (set_at (a := ⟨w.heap.size + 1, 3, none⟩) (set_at (a := ⟨w.heap.size + 1, 2, none⟩) (set_at (a := ⟨w.heap.size + 1, 1, none⟩) (set_at (a := ⟨w.heap.size + 1, 0, none⟩) (set_off (a := ⟨w1.heap.size, 4, none⟩) Xres_4.out (by first | omega | (simp only [szA, szS, szD, World.heap_drewN] at * <;> omega)) (.slice ad4 z.length cp4)) rfl rfl (.slice au0 c.sems.length pu0)) rfl rfl (.slice au1 c.groups.length pu1)) rfl rfl (.slice au2 c.barriers.length pu2)) rfl rfl (.slice au3 c.rooms.length pu3)) (by decide) (.slice ad4 z.length cp4)) ((((((Ou2_4.out.setB (w1.heap.size) 4 Xout_4.out (by decide) (.slice ad4 z.length cp4)).setB (w.heap.size + 1) 0 (set_off (a := ⟨w1.heap.size, 4, none⟩) Xres_4.out (by first | omega | (simp only [szA, szS, szD, World.heap_drewN] at * <;> omega)) (.slice ad4 z.length cp4)) (by decide) (.slice au0 c.sems.length pu0)).setB (w.heap.size + 1) 1 (set_at (a := ⟨w.heap.size + 1, 0, none⟩) (set_off (a := ⟨w1.heap.size, 4, none⟩) Xres_4.out (by first | omega | (simp only [szA, szS, szD, World.heap_drewN] at * <;> omega)) (.slice ad4 z.length cp4)) rfl rfl (.slice au0 c.sems.length pu0)) (by decide) (.slice au1 c.groups.length pu1)).setB (w.heap.size + 1) 2 (set_at (a := ⟨w.heap.size + 1, 1, none⟩) (set_at (a := ⟨w.heap.size + 1, 0, none⟩) (set_off (a := ⟨w1.heap.size, 4, none⟩) Xres_4.out (by first | omega | (simp only [szA, szS, szD, World.heap_drewN] at * <;> omega)) (.slice ad4 z.length cp4)) rfl rfl (.slice au0 c.sems.length pu0)) rfl rfl (.slice au1 c.groups.length pu1)) (by decide) (.slice au2 c.barriers.length pu2)).setB (w.heap.size + 1) 3 (set_at (a := ⟨w.heap.size + 1, 2, none⟩) (set_at (a := ⟨w.heap.size + 1, 1, none⟩) (set_at (a := ⟨w.heap.size + 1, 0, none⟩) (set_off (a := ⟨w1.heap.size, 4, none⟩) Xres_4.out (by first | omega | (simp only [szA, szS, szD, World.heap_drewN] at * <;> omega)) (.slice ad4 z.length cp4)) rfl rfl (.slice au0 c.sems.length pu0)) rfl rfl (.slice au1 c.groups.length pu1)) rfl rfl (.slice au2 c.barriers.length pu2)) (by decide) (.slice au3 c.rooms.length pu3)).setB (w.heap.size + 1) 4 (set_at (a := ⟨w.heap.size + 1, 3, none⟩) (set_at (a := ⟨w.heap.size + 1, 2, none⟩) (set_at (a := ⟨w.heap.size + 1, 1, none⟩) (set_at (a := ⟨w.heap.size + 1, 0, none⟩) (set_off (a := ⟨w1.heap.size, 4, none⟩) Xres_4.out (by first | omega | (simp only [szA, szS, szD, World.heap_drewN] at * <;> omega)) (.slice ad4 z.length cp4)) rfl rfl (.slice au0 c.sems.length pu0)) rfl rfl (.slice au1 c.groups.length pu1)) rfl rfl (.slice au2 c.barriers.length pu2)) rfl rfl (.slice au3 c.rooms.length pu3)) (by decide) (.slice ad4 z.length cp4)) ((((((Ou3_4.out.setB (w1.heap.size) 4 Xout_4.out (by decide) (.slice ad4 z.length cp4)).setB (w.heap.size + 1) 0 (set_off (a := ⟨w1.heap.size, 4, none⟩) Xres_4.out (by first | omega | (simp only [szA, szS, szD, World.heap_drewN] at * <;> omega)) (.slice ad4 z.length cp4)) (by decide) (.slice au0 c.sems.length pu0)).setB (w.heap.size + 1) 1 (set_at (a := ⟨w.heap.size + 1, 0, none⟩) (set_off (a := ⟨w1.heap.size, 4, none⟩) Xres_4.out (by first | omega | (simp only [szA, szS, szD, World.heap_drewN] at * <;> omega)) (.slice ad4 z.length cp4)) rfl rfl (.slice au0 c.sems.length pu0)) (by decide) (.slice au1 c.groups.length pu1)).setB (w.heap.size + 1) 2 (set_at (a := ⟨w.heap.size + 1, 1, none⟩) (set_at (a := ⟨w.heap.size + 1, 0, none⟩) (set_off (a := ⟨w1.heap.size, 4, none⟩) Xres_4.out (by first | omega | (simp only [szA, szS, szD, World.heap_drewN] at * <;> omega)) (.slice ad4 z.length cp4)) rfl rfl (.slice au0 c.sems.length pu0)) rfl rfl (.slice au1 c.groups.length pu1)) (by decide) (.slice au2 c.barriers.length pu2)).setB (w.heap.size + 1) 3 (set_at (a := ⟨w.heap.size + 1, 2, none⟩) (set_at (a := ⟨w.heap.size + 1, 1, none⟩) (set_at (a := ⟨w.heap.size + 1, 0, none⟩) (set_off (a := ⟨w1.heap.size, 4, none⟩) Xres_4.out (by first | omega | (simp only [szA, szS, szD, World.heap_drewN] at * <;> omega)) (.slice ad4 z.length cp4)) rfl rfl (.slice au0 c.sems.length pu0)) rfl rfl (.slice au1 c.groups.length pu1)) rfl rfl (.slice au2 c.barriers.length pu2)) (by decide) (.slice au3 c.rooms.length pu3)).setB (w.heap.size + 1) 4 (set_at (a := ⟨w.heap.size + 1, 3, none⟩) (set_at (a := ⟨w.heap.size + 1, 2, none⟩) (set_at (a := ⟨w.heap.size + 1, 1, none⟩) (set_at (a := ⟨w.heap.size + 1, 0, none⟩) (set_off (a := ⟨w1.heap.size, 4, none⟩) Xres_4.out (by first | omega | (simp only [szA, szS, szD, World.heap_drewN] at * <;> omega)) (.slice ad4 z.length cp4)) rfl rfl (.slice au0 c.sems.length pu0)) rfl rfl (.slice au1 c.groups.length pu1)) rfl rfl (.slice au2 c.barriers.length pu2)) rfl rfl (.slice au3 c.rooms.length pu3)) (by decide) (.slice ad4 z.length cp4)) ((((((Ou4_4.out.setB (w1.heap.size) 4 Xout_4.out (by decide) (.slice ad4 z.length cp4)).setB (w.heap.size + 1) 0 (set_off (a := ⟨w1.heap.size, 4, none⟩) Xres_4.out (by first | omega | (simp only [szA, szS, szD, World.heap_drewN] at * <;> omega)) (.slice ad4 z.length cp4)) (by decide) (.slice au0 c.sems.length pu0)).setB (w.heap.size + 1) 1 (set_at (a := ⟨w.heap.size + 1, 0, none⟩) (set_off (a := ⟨w1.heap.size, 4, none⟩) Xres_4.out (by first | omega | (simp only [szA, szS, szD, World.heap_drewN] at * <;> omega)) (.slice ad4 z.length cp4)) rfl rfl (.slice au0 c.sems.length pu0)) (by decide) (.slice au1 c.groups.length pu1)).setB (w.heap.size + 1) 2 (set_at (a := ⟨w.heap.size + 1, 1, none⟩) (set_at (a := ⟨w.heap.size + 1, 0, none⟩) (set_off (a := ⟨w1.heap.size, 4, none⟩) Xres_4.out (by first | omega | (simp only [szA, szS, szD, World.heap_drewN] at * <;> omega)) (.slice ad4 z.length cp4)) rfl rfl (.slice au0 c.sems.length pu0)) rfl rfl (.slice au1 c.groups.length pu1)) (by decide) (.slice au2 c.barriers.length pu2)).setB (w.heap.size + 1) 3 (set_at (a := ⟨w.heap.size + 1, 2, none⟩) (set_at (a := ⟨w.heap.size + 1, 1, none⟩) (set_at (a := ⟨w.heap.size + 1, 0, none⟩) (set_off (a := ⟨w1.heap.size, 4, none⟩) Xres_4.out (by first | omega | (simp only [szA, szS, szD, World.heap_drewN] at * <;> omega)) (.slice ad4 z.length cp4)) rfl rfl (.slice au0 c.sems.length pu0)) rfl rfl (.slice au1 c.groups.length pu1)) rfl rfl (.slice au2 c.barriers.length pu2)) (by decide) (.slice au3 c.rooms.length pu3)).setB (w.heap.size + 1) 4 (set_at (a := ⟨w.heap.size + 1, 3, none⟩) (set_at (a := ⟨w.heap.size + 1, 2, none⟩) (set_at (a := ⟨w.heap.size + 1, 1, none⟩) (set_at (a := ⟨w.heap.size + 1, 0, none⟩) (set_off (a := ⟨w1.heap.size, 4, none⟩) Xres_4.out (by first | omega | (simp only [szA, szS, szD, World.heap_drewN] at * <;> omega)) (.slice ad4 z.length cp4)) rfl rfl (.slice au0 c.sems.length pu0)) rfl rfl (.slice au1 c.groups.length pu1)) rfl rfl (.slice au2 c.barriers.length pu2)) rfl rfl (.slice au3 c.rooms.length pu3)) (by decide) (.slice ad4 z.length cp4)))
      · have KZ' := KZ.out
        exact HF.out.upd (by first | (show _ ≤ _; omega) | (simp only [List.length_append, List.length_singleton]; omega) | simp) (by first | (show _ ≤ _; omega) | (simp only [List.length_append, List.length_singleton]; omega) | simp) (by first | (show _ ≤ _; omega) | (simp only [List.length_append, List.length_singleton]; omega) | simp) (by first | (show _ ≤ _; omega) | (simp only [List.length_append, List.length_singleton]; omega) | simp) (by first | (show _ ≤ _; omega) | (simp only [List.length_append, List.length_singleton]; omega) | simp) (fun t ht => (List.mem_append.1 (show t ∈ c.threads ++ [[(x4, x6, x8)]] by rw [HZ.out]; exact ht)).imp id (fun h => by rw [List.mem_singleton.1 h]; exact Nat.le_refl 1))
      · exact Dr.mono ((((((A4.out.set (a := ⟨w1.heap.size, 4, none⟩) (by first | omega | (simp only [szA, szS, szD, World.heap_drewN] at * <;> omega)) (.slice ad4 z.length cp4)).set (a := ⟨w.heap.size + 1, 0, none⟩) (by first | omega | (simp only [szA, szS, szD, World.heap_drewN] at * <;> omega)) (.slice au0 c.sems.length pu0)).set (a := ⟨w.heap.size + 1, 1, none⟩) (by first | omega | (simp only [szA, szS, szD, World.heap_drewN] at * <;> omega)) (.slice au1 c.groups.length pu1)).set (a := ⟨w.heap.size + 1, 2, none⟩) (by first | omega | (simp only [szA, szS, szD, World.heap_drewN] at * <;> omega)) (.slice au2 c.barriers.length pu2)).set (a := ⟨w.heap.size + 1, 3, none⟩) (by first | omega | (simp only [szA, szS, szD, World.heap_drewN] at * <;> omega)) (.slice au3 c.rooms.length pu3)).set (a := ⟨w.heap.size + 1, 4, none⟩) (by first | omega | (simp only [szA, szS, szD, World.heap_drewN] at * <;> omega)) (.slice ad4 z.length cp4)) (by omega)
    · have e1 : (x == 1) = false := beq_false_of_ne h1
      by_cases h2 : x = 2
      · subst h2
        have ne_out_res : w1.heap.size ≠ w.heap.size + 1 := by omega
        have nf_out_res := ne_out_res.symm
        go_wp2_with (fail)
        refine bodyPost_ret (v := .agg #[.slice au0 c.sems.length pu0, .slice au1 c.groups.length pu1, .slice au2 c.barriers.length pu2, .slice au3 c.rooms.length pu3, .slice (some ⟨w2.heap.size, 0, none⟩) 0 0]) (by simp [results, Try.results51, go_sem, cres2_0, cres2_1, cres2_2, cres2_3, cres2_4, lres2, cout2_0, cout2_1, cout2_2, cout2_3, cout2_4, lout2, ne_out_res, nf_out_res]) rfl ⟨_, ⟨c.sems, c.groups, c.barriers, c.rooms, []⟩, rfl, ?_, ?_, ?_⟩
        · exact (ProgOwn.make (((((((Ou0_2.out.setB (w1.heap.size) 4 Xout_2.out (by decide) (.slice (some ⟨w2.heap.size, 0, none⟩) 0 0)).setB (w.heap.size + 1) 0 (set_off (a := ⟨w1.heap.size, 4, none⟩) Xres_2.out (by first | omega | (simp only [szA, szS, szD, World.heap_drewN] at * <;> omega)) (.slice (some ⟨w2.heap.size, 0, none⟩) 0 0)) (by decide) (.slice au0 c.sems.length pu0)).setB (w.heap.size + 1) 1 (set_at (a := ⟨w.heap.size + 1, 0, none⟩) (set_off (a := ⟨w1.heap.size, 4, none⟩) Xres_2.out (by first | omega | (simp only [szA, szS, szD, World.heap_drewN] at * <;> omega)) (.slice (some ⟨w2.heap.size, 0, none⟩) 0 0)) rfl rfl (.slice au0 c.sems.length pu0)) (by decide) (.slice au1 c.groups.length pu1)).setB (w.heap.size + 1) 2 (set_at (a := ⟨w.heap.size + 1, 1, none⟩) (set_at (a := ⟨w.heap.size + 1, 0, none⟩) (set_off (a := ⟨w1.heap.size, 4, none⟩) Xres_2.out (by first | omega | (simp only [szA, szS, szD, World.heap_drewN] at * <;> omega)) (.slice (some ⟨w2.heap.size, 0, none⟩) 0 0)) rfl rfl (.slice au0 c.sems.length pu0)) rfl rfl (.slice au1 c.groups.length pu1)) (by decide) (.slice au2 c.barriers.length pu2)).setB (w.heap.size + 1) 3 (set_at (a := ⟨w.heap.size + 1, 2, none⟩) (set_at (a := ⟨w.heap.size + 1, 1, none⟩) (set_at (a := ⟨w.heap.size + 1, 0, none⟩) (set_off (a := ⟨w1.heap.size, 4, none⟩) Xres_2.out (by first | omega | (simp only [szA, szS, szD, World.heap_drewN] at * <;> omega)) (.slice (some ⟨w2.heap.size, 0, none⟩) 0 0)) rfl rfl (.slice au0 c.sems.length pu0)) rfl rfl (.slice au1 c.groups.length pu1)) rfl rfl (.slice au2 c.barriers.length pu2)) (by decide) (.slice au3 c.rooms.length pu3)).setB (w.heap.size + 1) 4 (set_at (a := ⟨w.heap.size + 1, 3, none⟩) (set_at (a := ⟨w.heap.size + 1, 2, none⟩) (set_at (a := ⟨w.heap.size + 1, 1, none⟩) (set_at (a := ⟨w.heap.size + 1, 0, none⟩) (set_off (a := ⟨w1.heap.size, 4, none⟩) Xres_2.out (by first | omega | (simp only [szA, szS, szD, World.heap_drewN] at * <;> omega)) (.slice (some ⟨w2.heap.size, 0, none⟩) 0 0)) rfl rfl (.slice au0 c.sems.length pu0)) rfl rfl (.slice au1 c.groups.length pu1)) rfl rfl (.slice au2 c.barriers.length pu2)) rfl rfl (.slice au3 c.rooms.length pu3)) (by decide) (.slice (some ⟨w2.heap.size, 0, none⟩) 0 0)).alloc _) (((((((Ou1_2.out.setB (w1.heap.size) 4 Xout_2.out (by decide) (.slice (some ⟨w2.heap.size, 0, none⟩) 0 0)).setB (w.heap.size + 1) 0 (set_off (a := ⟨w1.heap.size, 4, none⟩) Xres_2.out (by first | omega | (simp only [szA, szS, szD, World.heap_drewN] at * <;> omega)) (.slice (some ⟨w2.heap.size, 0, none⟩) 0 0)) (by decide) (.slice au0 c.sems.length pu0)).setB (w.heap.size + 1) 1 (set_at (a := ⟨w.heap.size + 1, 0, none⟩) (set_off (a := ⟨w1.heap.size, 4, none⟩) Xres_2.out (by first | omega | (simp only [szA, szS, szD, World.heap_drewN] at * <;> omega)) (.slice (some ⟨w2.heap.size, 0, none⟩) 0 0)) rfl rfl (.slice au0 c.sems.length pu0)) (by decide) (.slice au1 c.groups.length pu1)).setB (w.heap.size + 1) 2 (set_at (a := ⟨w.heap.size + 1, 1, none⟩) (set_at (a := ⟨w.heap.size + 1, 0, none⟩) (set_off (a := ⟨w1.heap.size, 4, none⟩) Xres_2.out (by first | omega | (simp only [szA, szS, szD, World.heap_drewN] at * <;> omega)) (.slice (some ⟨w2.heap.size, 0, none⟩) 0 0)) rfl rfl (.slice au0 c.sems.length pu0)) rfl rfl (.slice au1 c.groups.length pu1)) (by decide) (.slice au2 c.barriers.length pu2)).setB (w.heap.size + 1) 3 (set_at (a := ⟨w.heap.size + 1, 2, none⟩) (set_at (a := ⟨w.heap.size + 1, 1, none⟩) (set_at (a := ⟨w.heap.size + 1, 0, none⟩) (set_off (a := ⟨w1.heap.size, 4, none⟩) Xres_2.out (by first | omega | (simp only [szA, szS, szD, World.heap_drewN] at * <;> omega)) (.slice (some ⟨w2.heap.size, 0, none⟩) 0 0)) rfl rfl (.slice au0 c.sems.length pu0)) rfl rfl (.slice au1 c.groups.length pu1)) rfl rfl (.slice au2 c.barriers.length pu2)) (by decide) (.slice au3 c.rooms.length pu3)).setB (w.heap.size + 1) 4 (set_at (a := ⟨w.heap.size + 1, 3, none⟩) (set_at (a := ⟨w.heap.size + 1, 2, none⟩) (set_at (a := ⟨w.heap.size + 1, 1, none⟩) (set_at (a := ⟨w.heap.size + 1, 0, none⟩) (set_off (a := ⟨w1.heap.size, 4, none⟩) Xres_2.out (by first | omega | (simp only [szA, szS, szD, World.heap_drewN] at * <;> omega)) (.slice (some ⟨w2.heap.size, 0, none⟩) 0 0)) rfl rfl (.slice au0 c.sems.length pu0)) rfl rfl (.slice au1 c.groups.length pu1)) rfl rfl (.slice au2 c.barriers.length pu2)) rfl rfl (.slice au3 c.rooms.length pu3)) (by decide) (.slice (some ⟨w2.heap.size, 0, none⟩) 0 0)).alloc _) (((((((Ou2_2.out.setB (w1.heap.size) 4 Xout_2.out (by decide) (.slice (some ⟨w2.heap.size, 0, none⟩) 0 0)).setB (w.heap.size + 1) 0 (set_off (a := ⟨w1.heap.size, 4, none⟩) Xres_2.out (by first | omega | (simp only [szA, szS, szD, World.heap_drewN] at * <;> omega)) (.slice (some ⟨w2.heap.size, 0, none⟩) 0 0)) (by decide) (.slice au0 c.sems.length pu0)).setB (w.heap.size + 1) 1 (set_at (a := ⟨w.heap.size + 1, 0, none⟩) (set_off (a := ⟨w1.heap.size, 4, none⟩) Xres_2.out (by first | omega | (simp only [szA, szS, szD, World.heap_drewN] at * <;> omega)) (.slice (some ⟨w2.heap.size, 0, none⟩) 0 0)) rfl rfl (.slice au0 c.sems.length pu0)) (by decide) (.slice au1 c.groups.length pu1)).setB (w.heap.size + 1) 2 (set_at (a := ⟨w.heap.size + 1, 1, none⟩) (set_at (a := ⟨w.heap.size + 1, 0, none⟩) (set_off (a := ⟨w1.heap.size, 4, none⟩) Xres_2.out (by first | omega | (simp only [szA, szS, szD, World.heap_drewN] at * <;> omega)) (.slice (some ⟨w2.heap.size, 0, none⟩) 0 0)) rfl rfl (.slice au0 c.sems.length pu0)) rfl rfl (.slice au1 c.groups.length pu1)) (by decide) (.slice au2 c.barriers.length pu2)).setB (w.heap.size + 1) 3 (set_at (a := ⟨w.heap.size + 1, 2, none⟩) (set_at (a := ⟨w.heap.size + 1, 1, none⟩) (set_at (a := ⟨w.heap.size + 1, 0, none⟩) (set_off (a := ⟨w1.heap.size, 4, none⟩) Xres_2.out (by first | omega | (simp only [szA, szS, szD, World.heap_drewN] at * <;> omega)) (.slice (some ⟨w2.heap.size, 0, none⟩) 0 0)) rfl rfl (.slice au0 c.sems.length pu0)) rfl rfl (.slice au1 c.groups.length pu1)) rfl rfl (.slice au2 c.barriers.length pu2)) (by decide) (.slice au3 c.rooms.length pu3)).setB (w.heap.size + 1) 4 (set_at (a := ⟨w.heap.size + 1, 3, none⟩) (set_at (a := ⟨w.heap.size + 1, 2, none⟩) (set_at (a := ⟨w.heap.size + 1, 1, none⟩) (set_at (a := ⟨w.heap.size + 1, 0, none⟩) (set_off (a := ⟨w1.heap.size, 4, none⟩) Xres_2.out (by first | omega | (simp only [szA, szS, szD, World.heap_drewN] at * <;> omega)) (.slice (some ⟨w2.heap.size, 0, none⟩) 0 0)) rfl rfl (.slice au0 c.sems.length pu0)) rfl rfl (.slice au1 c.groups.length pu1)) rfl rfl (.slice au2 c.barriers.length pu2)) rfl rfl (.slice au3 c.rooms.length pu3)) (by decide) (.slice (some ⟨w2.heap.size, 0, none⟩) 0 0)).alloc _) (((((((Ou3_2.out.setB (w1.heap.size) 4 Xout_2.out (by decide) (.slice (some ⟨w2.heap.size, 0, none⟩) 0 0)).setB (w.heap.size + 1) 0 (set_off (a := ⟨w1.heap.size, 4, none⟩) Xres_2.out (by first | omega | (simp only [szA, szS, szD, World.heap_drewN] at * <;> omega)) (.slice (some ⟨w2.heap.size, 0, none⟩) 0 0)) (by decide) (.slice au0 c.sems.length pu0)).setB (w.heap.size + 1) 1 (set_at (a := ⟨w.heap.size + 1, 0, none⟩) (set_off (a := ⟨w1.heap.size, 4, none⟩) Xres_2.out (by first | omega | (simp only [szA, szS, szD, World.heap_drewN] at * <;> omega)) (.slice (some ⟨w2.heap.size, 0, none⟩) 0 0)) rfl rfl (.slice au0 c.sems.length pu0)) (by decide) (.slice au1 c.groups.length pu1)).setB (w.heap.size + 1) 2 (set_at (a := ⟨w.heap.size + 1, 1, none⟩) (set_at (a := ⟨w.heap.size + 1, 0, none⟩) (set_off (a := ⟨w1.heap.size, 4, none⟩) Xres_2.out (by first | omega | (simp only [szA, szS, szD, World.heap_drewN] at * <;> omega)) (.slice (some ⟨w2.heap.size, 0, none⟩) 0 0)) rfl rfl (.slice au0 c.sems.length pu0)) rfl rfl (.slice au1 c.groups.length pu1)) (by decide) (.slice au2 c.barriers.length pu2)).setB (w.heap.size + 1) 3 (set_at (a := ⟨w.heap.size + 1, 2, none⟩) (set_at (a := ⟨w.heap.size + 1, 1, none⟩) (set_at (a := ⟨w.heap.size + 1, 0, none⟩) (set_off (a := ⟨w1.heap.size, 4, none⟩) Xres_2.out (by first | omega | (simp only [szA, szS, szD, World.heap_drewN] at * <;> omega)) (.slice (some ⟨w2.heap.size, 0, none⟩) 0 0)) rfl rfl (.slice au0 c.sems.length pu0)) rfl rfl (.slice au1 c.groups.length pu1)) rfl rfl (.slice au2 c.barriers.length pu2)) (by decide) (.slice au3 c.rooms.length pu3)).setB (w.heap.size + 1) 4 (set_at (a := ⟨w.heap.size + 1, 3, none⟩) (set_at (a := ⟨w.heap.size + 1, 2, none⟩) (set_at (a := ⟨w.heap.size + 1, 1, none⟩) (set_at (a := ⟨w.heap.size + 1, 0, none⟩) (set_off (a := ⟨w1.heap.size, 4, none⟩) Xres_2.out (by first | omega | (simp only [szA, szS, szD, World.heap_drewN] at * <;> omega)) (.slice (some ⟨w2.heap.size, 0, none⟩) 0 0)) rfl rfl (.slice au0 c.sems.length pu0)) rfl rfl (.slice au1 c.groups.length pu1)) rfl rfl (.slice au2 c.barriers.length pu2)) rfl rfl (.slice au3 c.rooms.length pu3)) (by decide) (.slice (some ⟨w2.heap.size, 0, none⟩) 0 0)).alloc _) (TTOwn.empty (Own.empty (heap_at' (n := w2.heap.size) (by first | omega | (simp only [szA, szS, szD, World.heap_drewN] at * <;> omega))) (by omega))))
        · exact HF.out.upd (by first | (show _ ≤ _; omega) | (simp only [List.length_append, List.length_singleton]; omega) | simp) (by first | (show _ ≤ _; omega) | (simp only [List.length_append, List.length_singleton]; omega) | simp) (by first | (show _ ≤ _; omega) | (simp only [List.length_append, List.length_singleton]; omega) | simp) (by first | (show _ ≤ _; omega) | (simp only [List.length_append, List.length_singleton]; omega) | simp) (by first | (show _ ≤ _; omega) | (simp only [List.length_append, List.length_singleton]; omega) | simp) (fun t ht => by cases ht)
        · exact Dr.mono (((((((A2.out.set (a := ⟨w1.heap.size, 4, none⟩) (by first | omega | (simp only [szA, szS, szD, World.heap_drewN] at * <;> omega)) (.slice (some ⟨w2.heap.size, 0, none⟩) 0 0)).set (a := ⟨w.heap.size + 1, 0, none⟩) (by first | omega | (simp only [szA, szS, szD, World.heap_drewN] at * <;> omega)) (.slice au0 c.sems.length pu0)).set (a := ⟨w.heap.size + 1, 1, none⟩) (by first | omega | (simp only [szA, szS, szD, World.heap_drewN] at * <;> omega)) (.slice au1 c.groups.length pu1)).set (a := ⟨w.heap.size + 1, 2, none⟩) (by first | omega | (simp only [szA, szS, szD, World.heap_drewN] at * <;> omega)) (.slice au2 c.barriers.length pu2)).set (a := ⟨w.heap.size + 1, 3, none⟩) (by first | omega | (simp only [szA, szS, szD, World.heap_drewN] at * <;> omega)) (.slice au3 c.rooms.length pu3)).set (a := ⟨w.heap.size + 1, 4, none⟩) (by first | omega | (simp only [szA, szS, szD, World.heap_drewN] at * <;> omega)) (.slice (some ⟨w2.heap.size, 0, none⟩) 0 0)).alloc _) (by omega)
      · have e2 : (x == 2) = false := beq_false_of_ne h2
        by_cases h3 : x = 3
        · subst h3
          go_wp2_with (fail)
          have hN0 : w2.heap.size ≤ w2.heap.size := (by first | omega | (simp only [szA, szS, szD, World.heap_drewN] at * <;> omega))
          refine wp_region_T [⟨0, false, [], fun _ v _ => v = .pointer (some ⟨w1.heap.size, 3, none⟩)⟩, ⟨1, false, [0], fun _ v _ => v = .slice au3 c.rooms.length pu3⟩, ⟨2, false, [], fun _ v _ => v = .pointer (some ⟨b, 0, none⟩)⟩, ⟨3, false, [], fun _ v w' => ∃ g, v = .slice (some ⟨g, 0, none⟩) 2 2 ∧ w.heap.size ≤ g ∧ w'.heap[g]? = some (.cells #[.int .i64 5, .int .i64 (-1)] 3 (0, 0))⟩, ⟨4, false, [2, 3], fun _ v _ => ∃ x : Int, v = .int .i64 x ∧ -1 ≤ x ∧ x ≤ 5⟩, ⟨5, false, [2, 3, 4], fun u v w' => ∃ g y, u 4 = .int .i64 y ∧ v = .slice (some ⟨g, 0, none⟩) 1 1 ∧ w.heap.size ≤ g ∧ w'.heap[g]? = some (.cells #[.int .i64 y] 3 (0, 0))⟩] [(0, some 42), (1, some 43), (2, some 44), (3, some 45), (4, some 46), (5, some 47)] (fun f w' => Dr w b ((N + 1) + (9 - f)) w' ∧ w2.heap.size ≤ w'.heap.size ∧ w'.heap[w1.heap.size]? = some (.cells #[.slice au0 c.sems.length pu0, .slice au1 c.groups.length pu1, .slice au2 c.barriers.length pu2, .slice au3 c.rooms.length pu3, .slice au4 c.threads.length pu4] 30 (0, 0)) ∧ w'.heap[w.heap.size + 1]? = some (.cells #[.slice none 0 0, .slice none 0 0, .slice none 0 0, .slice none 0 0, .slice none 0 0] 30 (0, 0)) ∧ Own w.heap.size 3 1 encI w' (.slice au0 c.sems.length pu0) c.sems ∧ Own w.heap.size 3 1 encI w' (.slice au1 c.groups.length pu1) c.groups ∧ Own w.heap.size 3 1 encI w' (.slice au2 c.barriers.length pu2) c.barriers ∧ Own w.heap.size 3 1 encI w' (.slice au3 c.rooms.length pu3) c.rooms ∧ TTOwn w.heap.size w' (.slice au4 c.threads.length pu4) c.threads) (fun _ w1 w2 => w1.grownBy w2 (some b)) (by kernel_rfl) (by rfl) (by kernel_rfl) (by kernel_rfl) ⟨Dr.mono A2.out.drew (by omega), hN0, heap_drew Xout_2.out, heap_drew Xres_2.out, Ou0_2.out, Ou1_2.out, Ou2_2.out, Ou3_2.out, Ou4_2.out⟩ (GoalsL.cons ?_ (GoalsL.cons ?_ (GoalsL.cons ?_ (GoalsL.cons ?_ (GoalsL.cons ?_ (GoalsL.cons ?_ (GoalsL.nil))))))) ?_
          · refine GoalL.mk (by rfl) (⟨fun _ _ _ _ _ h => h, fun _ _ _ _ _ _ h => h⟩) ?_
            intro f u wq hf hC hD K hK
            replace hf : f < 9 := hf
            have hA := hC.1; have hN := hC.2.1; have hout := hC.2.2.1; have hres := hC.2.2.2.1; have ou0 := hC.2.2.2.2.1; have ou1 := hC.2.2.2.2.2.1; have ou2 := hC.2.2.2.2.2.2.1; have ou3 := hC.2.2.2.2.2.2.2.1; have ou4 := hC.2.2.2.2.2.2.2.2; clear hC
            clear hD
            simp only [putL, Act.put, List.setIfInBounds_toArray, List.set_cons_zero, List.set_cons_succ] at hK ⊢
            refine Closed.mk ?_
            go_simp
            exact hK.out _ _ ⟨hA.mono (by omega), hN, hout, hres, ou0, ou1, ou2, ou3, ou4⟩ (World.grownBy.refl _ _) rfl
          · refine GoalL.mk (by rfl) (⟨fun _ _ _ _ _ h => h, fun _ _ _ _ _ _ h => h⟩) ?_
            intro f u wq hf hC hD K hK
            replace hf : f < 9 := hf
            have hA := hC.1; have hN := hC.2.1; have hout := hC.2.2.1; have hres := hC.2.2.2.1; have ou0 := hC.2.2.2.2.1; have ou1 := hC.2.2.2.2.2.1; have ou2 := hC.2.2.2.2.2.2.1; have ou3 := hC.2.2.2.2.2.2.2.1; have ou4 := hC.2.2.2.2.2.2.2.2; clear hC
            have d0 := hD.1; clear hD
            have q0 : u 0 = .pointer (some ⟨w1.heap.size, 3, none⟩) := d0
            have e0 := q0; clear q0
            clear d0
            simp only [putL, Act.put, List.setIfInBounds_toArray, List.set_cons_zero, List.set_cons_succ, e0] at hK ⊢
            obtain ⟨cout_0, cout_1, cout_2, cout_3, cout_4, fout_0, fout_1, fout_2, fout_3, fout_4⟩ := box5 hout
            refine Closed.mk ?_
            go_simp
            exact hK.out _ _ ⟨hA.mono (by omega), hN, hout, hres, ou0, ou1, ou2, ou3, ou4⟩ (World.grownBy.refl _ _) rfl
          · refine GoalL.mk (by rfl) (⟨fun _ _ _ _ _ h => h, fun _ _ _ _ _ _ h => h⟩) ?_
            intro f u wq hf hC hD K hK
            replace hf : f < 9 := hf
            have hA := hC.1; have hN := hC.2.1; have hout := hC.2.2.1; have hres := hC.2.2.2.1; have ou0 := hC.2.2.2.2.1; have ou1 := hC.2.2.2.2.2.1; have ou2 := hC.2.2.2.2.2.2.1; have ou3 := hC.2.2.2.2.2.2.2.1; have ou4 := hC.2.2.2.2.2.2.2.2; clear hC
            clear hD
            simp only [putL, Act.put, List.setIfInBounds_toArray, List.set_cons_zero, List.set_cons_succ] at hK ⊢
            refine Closed.mk ?_
            go_simp
            exact hK.out _ _ ⟨hA.mono (by omega), hN, hout, hres, ou0, ou1, ou2, ou3, ou4⟩ (World.grownBy.refl _ _) rfl
          · refine GoalL.mk (by rfl) (⟨fun _ _ _ _ hR ⟨g, h1, h2, h3⟩ => ⟨g, h1, h2, grown_at hR h3 (by omega)⟩, fun _ => fun _ _ _ _ hR ⟨g, h1, h2, h3⟩ => ⟨g, h1, h2, grown_at hR h3 (by omega)⟩⟩) ?_
            intro f u wq hf hC hD K hK
            replace hf : f < 9 := hf
            have hA := hC.1; have hN := hC.2.1; have hout := hC.2.2.1; have hres := hC.2.2.2.1; have ou0 := hC.2.2.2.2.1; have ou1 := hC.2.2.2.2.2.1; have ou2 := hC.2.2.2.2.2.2.1; have ou3 := hC.2.2.2.2.2.2.2.1; have ou4 := hC.2.2.2.2.2.2.2.2; clear hC
            clear hD
            simp only [putL, Act.put, List.setIfInBounds_toArray, List.set_cons_zero, List.set_cons_succ] at hK ⊢
            refine Closed.mk ?_
            go_simp
            exact hK.out _ _ ⟨(hA.alloc _).mono (by omega), Nat.le_trans hN (alloc_le _ _), (heap_up hout), (heap_up hres), (ou0.alloc _), (ou1.alloc _), (ou2.alloc _), (ou3.alloc _), (ou4.alloc _)⟩ (World.grownBy_alloc _ _ _) ⟨_, rfl, by have := hA.size; omega, heap_at _ _⟩
          · refine GoalL.mk (by rfl) (⟨fun _ _ _ _ _ h => h, fun _ _ _ _ _ _ h => h⟩) ?_
            intro f u wq hf hC hD K hK
            replace hf : f < 9 := hf
            have hA := hC.1; have hN := hC.2.1; have hout := hC.2.2.1; have hres := hC.2.2.2.1; have ou0 := hC.2.2.2.2.1; have ou1 := hC.2.2.2.2.2.1; have ou2 := hC.2.2.2.2.2.2.1; have ou3 := hC.2.2.2.2.2.2.2.1; have ou4 := hC.2.2.2.2.2.2.2.2; clear hC
            have d2 := hD.1; have d3 := hD.2.1; clear hD
            have q2 : u 2 = .pointer (some ⟨b, 0, none⟩) := d2
            have e2 := q2; clear q2
            clear d2
            have q3 : ∃ g, u 3 = .slice (some ⟨g, 0, none⟩) 2 2 ∧ w.heap.size ≤ g ∧ wq.heap[g]? = some (.cells #[.int .i64 5, .int .i64 (-1)] 3 (0, 0)) := d3
            obtain ⟨g3, e3, q3a, q3b⟩ := q3
            clear d3
            simp only [putL, Act.put, List.setIfInBounds_toArray, List.set_cons_zero, List.set_cons_succ, e2, e3] at hK ⊢
            refine Closed.mk ?_
            go_simp
            refine (numD b ((N + 1) + (9 - (f + 1))) _ [5, -1] w _ hA (by omega) (lit_at q3b rfl) (by decide) (by simp [Value.ownBlock]; omega)).mono ?_
            rintro e w2 ⟨x, rfl, hx, hd⟩
            have hxb : -1 ≤ x ∧ x ≤ 5 := by simp at hx; omega
            exact hK.out _ _ ⟨(hA.then hd).mono (by omega), Nat.le_trans hN hd.size, (hd.at_ hout (by omega)), (hd.at_ hres (by omega)), (ou0.past hd.g hlt), (ou1.past hd.g hlt), (ou2.past hd.g hlt), (ou3.past hd.g hlt), (ou4.past hd.g hlt)⟩ hd.g ⟨x, rfl, hxb.1, hxb.2⟩
          · refine GoalL.mk (by rfl) (⟨fun _ _ _ _ hR ⟨g, y, h0, h1, h2, h3⟩ => ⟨g, y, h0, h1, h2, grown_at hR h3 (by omega)⟩, fun _ => fun _ _ _ _ hR ⟨g, y, h0, h1, h2, h3⟩ => ⟨g, y, h0, h1, h2, grown_at hR h3 (by omega)⟩⟩) ?_
            intro f u wq hf hC hD K hK
            replace hf : f < 9 := hf
            have hA := hC.1; have hN := hC.2.1; have hout := hC.2.2.1; have hres := hC.2.2.2.1; have ou0 := hC.2.2.2.2.1; have ou1 := hC.2.2.2.2.2.1; have ou2 := hC.2.2.2.2.2.2.1; have ou3 := hC.2.2.2.2.2.2.2.1; have ou4 := hC.2.2.2.2.2.2.2.2; clear hC
            have d2 := hD.1; have d3 := hD.2.1; have d4 := hD.2.2.1; clear hD
            have q2 : u 2 = .pointer (some ⟨b, 0, none⟩) := d2
            have e2 := q2; clear q2
            clear d2
            have q3 : ∃ g, u 3 = .slice (some ⟨g, 0, none⟩) 2 2 ∧ w.heap.size ≤ g ∧ wq.heap[g]? = some (.cells #[.int .i64 5, .int .i64 (-1)] 3 (0, 0)) := d3
            obtain ⟨g3, e3, q3a, q3b⟩ := q3
            clear d3
            have q4 : ∃ x : Int, u 4 = .int .i64 x ∧ -1 ≤ x ∧ x ≤ 5 := d4
            obtain ⟨x4, e4, q4a, q4b⟩ := q4
            clear d4
            simp only [putL, Act.put, List.setIfInBounds_toArray, List.set_cons_zero, List.set_cons_succ, e2, e3, e4] at hK ⊢
            refine Closed.mk ?_
            go_simp
            exact hK.out _ _ ⟨(hA.alloc _).mono (by omega), Nat.le_trans hN (alloc_le _ _), (heap_up hout), (heap_up hres), (ou0.alloc _), (ou1.alloc _), (ou2.alloc _), (ou3.alloc _), (ou4.alloc _)⟩ (World.grownBy_alloc _ _ _) ⟨_, x4, (by simp [mask, e4]), rfl, by have := hA.size; omega, heap_at _ _⟩
          intro u w3 hC hD
          have hA := hC.1; have hN := hC.2.1; have hout := hC.2.2.1; have hres := hC.2.2.2.1; have ou0 := hC.2.2.2.2.1; have ou1 := hC.2.2.2.2.2.1; have ou2 := hC.2.2.2.2.2.2.1; have ou3 := hC.2.2.2.2.2.2.2.1; have ou4 := hC.2.2.2.2.2.2.2.2; clear hC
          have d0 := hD.1; have d1 := hD.2.1; have d2 := hD.2.2.1; have d3 := hD.2.2.2.1; have d4 := hD.2.2.2.2.1; have d5 := hD.2.2.2.2.2.1; clear hD
          have q0 : u 0 = .pointer (some ⟨w1.heap.size, 3, none⟩) := d0
          have e0 := q0; clear q0
          clear d0
          have q1 : u 1 = .slice au3 c.rooms.length pu3 := d1
          have e1 := q1; clear q1
          clear d1
          have q2 : u 2 = .pointer (some ⟨b, 0, none⟩) := d2
          have e2 := q2; clear q2
          clear d2
          have q3 : ∃ g, u 3 = .slice (some ⟨g, 0, none⟩) 2 2 ∧ w.heap.size ≤ g ∧ w3.heap[g]? = some (.cells #[.int .i64 5, .int .i64 (-1)] 3 (0, 0)) := d3
          obtain ⟨g3, e3, q3a, q3b⟩ := q3
          clear d3
          have q4 : ∃ x : Int, u 4 = .int .i64 x ∧ -1 ≤ x ∧ x ≤ 5 := d4
          obtain ⟨x4, e4, q4a, q4b⟩ := q4
          clear d4
          have q5 : ∃ g y, u 4 = .int .i64 y ∧ u 5 = .slice (some ⟨g, 0, none⟩) 1 1 ∧ w.heap.size ≤ g ∧ w3.heap[g]? = some (.cells #[.int .i64 y] 3 (0, 0)) := d5
          obtain ⟨g5, y5, z5, e5, q5a, q5b⟩ := q5
          rw [e4] at z5
          obtain rfl : x4 = y5 := int_inj9 z5
          clear z5
          clear d5
          replace hA : Dr w b ((N + 1) + (9 - (9 - 6))) w3 := hA
          have A3 : Hid (Dr w b (N + 10) w3) := Lib.hid (hA.mono (by omega))
          have N3 := hN; have S3 := hA.size
          have Xout_3 := Lib.hid hout; clear hout
          have Xres_3 := Lib.hid hres; clear hres
          have Ou0_3 := Lib.hid ou0; clear ou0
          have Ou1_3 := Lib.hid ou1; clear ou1
          have Ou2_3 := Lib.hid ou2; clear ou2
          have Ou3_3 := Lib.hid ou3; clear ou3
          have Ou4_3 := Lib.hid ou4; clear ou4
          obtain ⟨cout3_0, cout3_1, cout3_2, cout3_3, cout3_4, fout3_0, fout3_1, fout3_2, fout3_3, fout3_4⟩ := box5 Xout_3.out; have lout3 := heap_lt Xout_3.out
          obtain ⟨cres3_0, cres3_1, cres3_2, cres3_3, cres3_4, fres3_0, fres3_1, fres3_2, fres3_3, fres3_4⟩ := box5 Xres_3.out; have lres3 := heap_lt Xres_3.out
          clear hA hN hN0
          simp only [putL, Act.put, List.setIfInBounds_toArray, List.set_cons_zero, List.set_cons_succ, e0, e1, e2, e3, e4, e5]
          refine Closed.mk ?_
          change wpAnyH _ _ _ _ _ (2 + 1) _ _ _
          refine one_ready (i := 6) (by kernel_rfl) (by rfl) ?_
          intro K hK
          refine Closed.mk ?_
          refine step_push _ encI_len encI_one rfl _ _ 22 rfl 3 _ 8 Try.underlying22 info_int rfl (by decide) w.heap.size (.slice au3 c.rooms.length pu3) c.rooms (by simp [Act.eval]) (Ou3_3.out) (by omega) (.slice (some ⟨g5, 0, none⟩) 1 1) [x4] (by simp [Act.eval]) (lit_int1 q5b) (by simp) (by decide) (by simp only [List.length_cons, List.length_nil]; omega) ?_
          intro ad4 cp4 w4 hown hg hat
          have Xout_4 := Lib.hid (grown_at2 hg Xout_3.out (Ou3_3.out.ne Xout_3.out (by decide)))
          have Xres_4 := Lib.hid (grown_at2 hg Xres_3.out (Ou3_3.out.ne Xres_3.out (by decide)))
          have Ou0_4 := Lib.hid (Ou0_3.out.apart hg APu03.out.symm)
          have Ou1_4 := Lib.hid (Ou1_3.out.apart hg APu13.out.symm)
          have Ou2_4 := Lib.hid (Ou2_3.out.apart hg APu23.out.symm)
          have Ou4_4 := Lib.hid (Ou4_3.out.grownT Ou3_3.out hg (by decide))
          have Ou3_4 := Lib.hid hown
          have A4 := Lib.hid (Dr.own A3.out hg (fun g e => Ou3_3.out.blk g e))
          have N4 : w3.heap.size ≤ w4.heap.size := hg.size
          clear hown hg hat
          obtain ⟨cout4_0, cout4_1, cout4_2, cout4_3, cout4_4, fout4_0, fout4_1, fout4_2, fout4_3, fout4_4⟩ := box5 Xout_4.out; have lout4 := heap_lt Xout_4.out
          obtain ⟨cres4_0, cres4_1, cres4_2, cres4_3, cres4_4, fres4_0, fres4_1, fres4_2, fres4_3, fres4_4⟩ := box5 Xres_4.out; have lres4 := heap_lt Xres_4.out
          have S4 : w.heap.size ≤ w4.heap.size := by omega
          refine hK.out _ _ ?_
          refine one_ready (i := 7) (by kernel_rfl) (by rfl) ?_
          intro K2 hK2
          refine Closed.mk ?_
          go_simp
          refine hK2.out _ _ ?_
          refine one_ready (i := 8) (by kernel_rfl) (by rfl) ?_
          intro K3 hK3
          refine Closed.mk ?_
          go_simp
          refine hK3.out _ _ ?_
          refine wpAnyH_done (by kernel_rfl) ?_ _
          have ne_out_res : w1.heap.size ≠ w.heap.size + 1 := by omega
          have nf_out_res := ne_out_res.symm
          go_wp2_with (fail)
          refine bodyPost_ret (v := .agg #[.slice au0 c.sems.length pu0, .slice au1 c.groups.length pu1, .slice au2 c.barriers.length pu2, .slice ad4 (c.rooms.length + 1) cp4, .slice au4 c.threads.length pu4]) (by simp [results, Try.results51, go_sem, cres4_0, cres4_1, cres4_2, cres4_3, cres4_4, lres4, cout4_0, cout4_1, cout4_2, cout4_3, cout4_4, lout4, ne_out_res, nf_out_res]) rfl ⟨_, ⟨c.sems, c.groups, c.barriers, (c.rooms ++ [x4]), c.threads⟩, rfl, ?_, ?_, ?_⟩
          · exact (ProgOwn.make ((((((Ou0_4.out.setB (w1.heap.size) 3 Xout_4.out (by decide) (.slice ad4 (c.rooms.length + 1) cp4)).setB (w.heap.size + 1) 0 (set_off (a := ⟨w1.heap.size, 3, none⟩) Xres_4.out (by first | omega | (simp only [szA, szS, szD, World.heap_drewN] at * <;> omega)) (.slice ad4 (c.rooms.length + 1) cp4)) (by decide) (.slice au0 c.sems.length pu0)).setB (w.heap.size + 1) 1 (set_at (a := ⟨w.heap.size + 1, 0, none⟩) (set_off (a := ⟨w1.heap.size, 3, none⟩) Xres_4.out (by first | omega | (simp only [szA, szS, szD, World.heap_drewN] at * <;> omega)) (.slice ad4 (c.rooms.length + 1) cp4)) rfl rfl (.slice au0 c.sems.length pu0)) (by decide) (.slice au1 c.groups.length pu1)).setB (w.heap.size + 1) 2 (set_at (a := ⟨w.heap.size + 1, 1, none⟩) (set_at (a := ⟨w.heap.size + 1, 0, none⟩) (set_off (a := ⟨w1.heap.size, 3, none⟩) Xres_4.out (by first | omega | (simp only [szA, szS, szD, World.heap_drewN] at * <;> omega)) (.slice ad4 (c.rooms.length + 1) cp4)) rfl rfl (.slice au0 c.sems.length pu0)) rfl rfl (.slice au1 c.groups.length pu1)) (by decide) (.slice au2 c.barriers.length pu2)).setB (w.heap.size + 1) 3 (set_at (a := ⟨w.heap.size + 1, 2, none⟩) (set_at (a := ⟨w.heap.size + 1, 1, none⟩) (set_at (a := ⟨w.heap.size + 1, 0, none⟩) (set_off (a := ⟨w1.heap.size, 3, none⟩) Xres_4.out (by first | omega | (simp only [szA, szS, szD, World.heap_drewN] at * <;> omega)) (.slice ad4 (c.rooms.length + 1) cp4)) rfl rfl (.slice au0 c.sems.length pu0)) rfl rfl (.slice au1 c.groups.length pu1)) rfl rfl (.slice au2 c.barriers.length pu2)) (by decide) (.slice ad4 (c.rooms.length + 1) cp4)).setB (w.heap.size + 1) 4 (set_at (a := ⟨w.heap.size + 1, 3, none⟩) (set_at (a := ⟨w.heap.size + 1, 2, none⟩) (set_at (a := ⟨w.heap.size + 1, 1, none⟩) (set_at (a := ⟨w.heap.size + 1, 0, none⟩) (set_off (a := ⟨w1.heap.size, 3, none⟩) Xres_4.out (by first | omega | (simp only [szA, szS, szD, World.heap_drewN] at * <;> omega)) (.slice ad4 (c.rooms.length + 1) cp4)) rfl rfl (.slice au0 c.sems.length pu0)) rfl rfl (.slice au1 c.groups.length pu1)) rfl rfl (.slice au2 c.barriers.length pu2)) rfl rfl (.slice ad4 (c.rooms.length + 1) cp4)) (by decide) (.slice au4 c.threads.length pu4)) ((((((Ou1_4.out.setB (w1.heap.size) 3 Xout_4.out (by decide) (.slice ad4 (c.rooms.length + 1) cp4)).setB (w.heap.size + 1) 0 (set_off (a := ⟨w1.heap.size, 3, none⟩) Xres_4.out (by first | omega | (simp only [szA, szS, szD, World.heap_drewN] at * <;> omega)) (.slice ad4 (c.rooms.length + 1) cp4)) (by decide) (.slice au0 c.sems.length pu0)).setB (w.heap.size + 1) 1 (set_at (a := ⟨w.heap.size + 1, 0, none⟩) (set_off (a := ⟨w1.heap.size, 3, none⟩) Xres_4.out (by first | omega | (simp only [szA, szS, szD, World.heap_drewN] at * <;> omega)) (.slice ad4 (c.rooms.length + 1) cp4)) rfl rfl (.slice au0 c.sems.length pu0)) (by decide) (.slice au1 c.groups.length pu1)).setB (w.heap.size + 1) 2 (set_at (a := ⟨w.heap.size + 1, 1, none⟩) (set_at (a := ⟨w.heap.size + 1, 0, none⟩) (set_off (a := ⟨w1.heap.size, 3, none⟩) Xres_4.out (by first | omega | (simp only [szA, szS, szD, World.heap_drewN] at * <;> omega)) (.slice ad4 (c.rooms.length + 1) cp4)) rfl rfl (.slice au0 c.sems.length pu0)) rfl rfl (.slice au1 c.groups.length pu1)) (by decide) (.slice au2 c.barriers.length pu2)).setB (w.heap.size + 1) 3 (set_at (a := ⟨w.heap.size + 1, 2, none⟩) (set_at (a := ⟨w.heap.size + 1, 1, none⟩) (set_at (a := ⟨w.heap.size + 1, 0, none⟩) (set_off (a := ⟨w1.heap.size, 3, none⟩) Xres_4.out (by first | omega | (simp only [szA, szS, szD, World.heap_drewN] at * <;> omega)) (.slice ad4 (c.rooms.length + 1) cp4)) rfl rfl (.slice au0 c.sems.length pu0)) rfl rfl (.slice au1 c.groups.length pu1)) rfl rfl (.slice au2 c.barriers.length pu2)) (by decide) (.slice ad4 (c.rooms.length + 1) cp4)).setB (w.heap.size + 1) 4 (set_at (a := ⟨w.heap.size + 1, 3, none⟩) (set_at (a := ⟨w.heap.size + 1, 2, none⟩) (set_at (a := ⟨w.heap.size + 1, 1, none⟩) (set_at (a := ⟨w.heap.size + 1, 0, none⟩) (set_off (a := ⟨w1.heap.size, 3, none⟩) Xres_4.out (by first | omega | (simp only [szA, szS, szD, World.heap_drewN] at * <;> omega)) (.slice ad4 (c.rooms.length + 1) cp4)) rfl rfl (.slice au0 c.sems.length pu0)) rfl rfl (.slice au1 c.groups.length pu1)) rfl rfl (.slice au2 c.barriers.length pu2)) rfl rfl (.slice ad4 (c.rooms.length + 1) cp4)) (by decide) (.slice au4 c.threads.length pu4)) ((((((Ou2_4.out.setB (w1.heap.size) 3 Xout_4.out (by decide) (.slice ad4 (c.rooms.length + 1) cp4)).setB (w.heap.size + 1) 0 (set_off (a := ⟨w1.heap.size, 3, none⟩) Xres_4.out (by first | omega | (simp only [szA, szS, szD, World.heap_drewN] at * <;> omega)) (.slice ad4 (c.rooms.length + 1) cp4)) (by decide) (.slice au0 c.sems.length pu0)).setB (w.heap.size + 1) 1 (set_at (a := ⟨w.heap.size + 1, 0, none⟩) (set_off (a := ⟨w1.heap.size, 3, none⟩) Xres_4.out (by first | omega | (simp only [szA, szS, szD, World.heap_drewN] at * <;> omega)) (.slice ad4 (c.rooms.length + 1) cp4)) rfl rfl (.slice au0 c.sems.length pu0)) (by decide) (.slice au1 c.groups.length pu1)).setB (w.heap.size + 1) 2 (set_at (a := ⟨w.heap.size + 1, 1, none⟩) (set_at (a := ⟨w.heap.size + 1, 0, none⟩) (set_off (a := ⟨w1.heap.size, 3, none⟩) Xres_4.out (by first | omega | (simp only [szA, szS, szD, World.heap_drewN] at * <;> omega)) (.slice ad4 (c.rooms.length + 1) cp4)) rfl rfl (.slice au0 c.sems.length pu0)) rfl rfl (.slice au1 c.groups.length pu1)) (by decide) (.slice au2 c.barriers.length pu2)).setB (w.heap.size + 1) 3 (set_at (a := ⟨w.heap.size + 1, 2, none⟩) (set_at (a := ⟨w.heap.size + 1, 1, none⟩) (set_at (a := ⟨w.heap.size + 1, 0, none⟩) (set_off (a := ⟨w1.heap.size, 3, none⟩) Xres_4.out (by first | omega | (simp only [szA, szS, szD, World.heap_drewN] at * <;> omega)) (.slice ad4 (c.rooms.length + 1) cp4)) rfl rfl (.slice au0 c.sems.length pu0)) rfl rfl (.slice au1 c.groups.length pu1)) rfl rfl (.slice au2 c.barriers.length pu2)) (by decide) (.slice ad4 (c.rooms.length + 1) cp4)).setB (w.heap.size + 1) 4 (set_at (a := ⟨w.heap.size + 1, 3, none⟩) (set_at (a := ⟨w.heap.size + 1, 2, none⟩) (set_at (a := ⟨w.heap.size + 1, 1, none⟩) (set_at (a := ⟨w.heap.size + 1, 0, none⟩) (set_off (a := ⟨w1.heap.size, 3, none⟩) Xres_4.out (by first | omega | (simp only [szA, szS, szD, World.heap_drewN] at * <;> omega)) (.slice ad4 (c.rooms.length + 1) cp4)) rfl rfl (.slice au0 c.sems.length pu0)) rfl rfl (.slice au1 c.groups.length pu1)) rfl rfl (.slice au2 c.barriers.length pu2)) rfl rfl (.slice ad4 (c.rooms.length + 1) cp4)) (by decide) (.slice au4 c.threads.length pu4)) ((((((Ou3_4.out.setB (w1.heap.size) 3 Xout_4.out (by decide) (.slice ad4 (c.rooms.length + 1) cp4)).setB (w.heap.size + 1) 0 (set_off (a := ⟨w1.heap.size, 3, none⟩) Xres_4.out (by first | omega | (simp only [szA, szS, szD, World.heap_drewN] at * <;> omega)) (.slice ad4 (c.rooms.length + 1) cp4)) (by decide) (.slice au0 c.sems.length pu0)).setB (w.heap.size + 1) 1 (set_at (a := ⟨w.heap.size + 1, 0, none⟩) (set_off (a := ⟨w1.heap.size, 3, none⟩) Xres_4.out (by first | omega | (simp only [szA, szS, szD, World.heap_drewN] at * <;> omega)) (.slice ad4 (c.rooms.length + 1) cp4)) rfl rfl (.slice au0 c.sems.length pu0)) (by decide) (.slice au1 c.groups.length pu1)).setB (w.heap.size + 1) 2 (set_at (a := ⟨w.heap.size + 1, 1, none⟩) (set_at (a := ⟨w.heap.size + 1, 0, none⟩) (set_off (a := ⟨w1.heap.size, 3, none⟩) Xres_4.out (by first | omega | (simp only [szA, szS, szD, World.heap_drewN] at * <;> omega)) (.slice ad4 (c.rooms.length + 1) cp4)) rfl rfl (.slice au0 c.sems.length pu0)) rfl rfl (.slice au1 c.groups.length pu1)) (by decide) (.slice au2 c.barriers.length pu2)).setB (w.heap.size + 1) 3 (set_at (a := ⟨w.heap.size + 1, 2, none⟩) (set_at (a := ⟨w.heap.size + 1, 1, none⟩) (set_at (a := ⟨w.heap.size + 1, 0, none⟩) (set_off (a := ⟨w1.heap.size, 3, none⟩) Xres_4.out (by first | omega | (simp only [szA, szS, szD, World.heap_drewN] at * <;> omega)) (.slice ad4 (c.rooms.length + 1) cp4)) rfl rfl (.slice au0 c.sems.length pu0)) rfl rfl (.slice au1 c.groups.length pu1)) rfl rfl (.slice au2 c.barriers.length pu2)) (by decide) (.slice ad4 (c.rooms.length + 1) cp4)).setB (w.heap.size + 1) 4 (set_at (a := ⟨w.heap.size + 1, 3, none⟩) (set_at (a := ⟨w.heap.size + 1, 2, none⟩) (set_at (a := ⟨w.heap.size + 1, 1, none⟩) (set_at (a := ⟨w.heap.size + 1, 0, none⟩) (set_off (a := ⟨w1.heap.size, 3, none⟩) Xres_4.out (by first | omega | (simp only [szA, szS, szD, World.heap_drewN] at * <;> omega)) (.slice ad4 (c.rooms.length + 1) cp4)) rfl rfl (.slice au0 c.sems.length pu0)) rfl rfl (.slice au1 c.groups.length pu1)) rfl rfl (.slice au2 c.barriers.length pu2)) rfl rfl (.slice ad4 (c.rooms.length + 1) cp4)) (by decide) (.slice au4 c.threads.length pu4)) ((((((Ou4_4.out.setB (w1.heap.size) 3 Xout_4.out (by decide) (.slice ad4 (c.rooms.length + 1) cp4)).setB (w.heap.size + 1) 0 (set_off (a := ⟨w1.heap.size, 3, none⟩) Xres_4.out (by first | omega | (simp only [szA, szS, szD, World.heap_drewN] at * <;> omega)) (.slice ad4 (c.rooms.length + 1) cp4)) (by decide) (.slice au0 c.sems.length pu0)).setB (w.heap.size + 1) 1 (set_at (a := ⟨w.heap.size + 1, 0, none⟩) (set_off (a := ⟨w1.heap.size, 3, none⟩) Xres_4.out (by first | omega | (simp only [szA, szS, szD, World.heap_drewN] at * <;> omega)) (.slice ad4 (c.rooms.length + 1) cp4)) rfl rfl (.slice au0 c.sems.length pu0)) (by decide) (.slice au1 c.groups.length pu1)).setB (w.heap.size + 1) 2 (set_at (a := ⟨w.heap.size + 1, 1, none⟩) (set_at (a := ⟨w.heap.size + 1, 0, none⟩) (set_off (a := ⟨w1.heap.size, 3, none⟩) Xres_4.out (by first | omega | (simp only [szA, szS, szD, World.heap_drewN] at * <;> omega)) (.slice ad4 (c.rooms.length + 1) cp4)) rfl rfl (.slice au0 c.sems.length pu0)) rfl rfl (.slice au1 c.groups.length pu1)) (by decide) (.slice au2 c.barriers.length pu2)).setB (w.heap.size + 1) 3 (set_at (a := ⟨w.heap.size + 1, 2, none⟩) (set_at (a := ⟨w.heap.size + 1, 1, none⟩) (set_at (a := ⟨w.heap.size + 1, 0, none⟩) (set_off (a := ⟨w1.heap.size, 3, none⟩) Xres_4.out (by first | omega | (simp only [szA, szS, szD, World.heap_drewN] at * <;> omega)) (.slice ad4 (c.rooms.length + 1) cp4)) rfl rfl (.slice au0 c.sems.length pu0)) rfl rfl (.slice au1 c.groups.length pu1)) rfl rfl (.slice au2 c.barriers.length pu2)) (by decide) (.slice ad4 (c.rooms.length + 1) cp4)).setB (w.heap.size + 1) 4 (set_at (a := ⟨w.heap.size + 1, 3, none⟩) (set_at (a := ⟨w.heap.size + 1, 2, none⟩) (set_at (a := ⟨w.heap.size + 1, 1, none⟩) (set_at (a := ⟨w.heap.size + 1, 0, none⟩) (set_off (a := ⟨w1.heap.size, 3, none⟩) Xres_4.out (by first | omega | (simp only [szA, szS, szD, World.heap_drewN] at * <;> omega)) (.slice ad4 (c.rooms.length + 1) cp4)) rfl rfl (.slice au0 c.sems.length pu0)) rfl rfl (.slice au1 c.groups.length pu1)) rfl rfl (.slice au2 c.barriers.length pu2)) rfl rfl (.slice ad4 (c.rooms.length + 1) cp4)) (by decide) (.slice au4 c.threads.length pu4)))
          · exact HF.out.upd (by first | (show _ ≤ _; omega) | (simp only [List.length_append, List.length_singleton]; omega) | simp) (by first | (show _ ≤ _; omega) | (simp only [List.length_append, List.length_singleton]; omega) | simp) (by first | (show _ ≤ _; omega) | (simp only [List.length_append, List.length_singleton]; omega) | simp) (by first | (show _ ≤ _; omega) | (simp only [List.length_append, List.length_singleton]; omega) | simp) (by first | (show _ ≤ _; omega) | (simp only [List.length_append, List.length_singleton]; omega) | simp) (fun t ht => .inl ht)
          · exact Dr.mono ((((((A4.out.set (a := ⟨w1.heap.size, 3, none⟩) (by first | omega | (simp only [szA, szS, szD, World.heap_drewN] at * <;> omega)) (.slice ad4 (c.rooms.length + 1) cp4)).set (a := ⟨w.heap.size + 1, 0, none⟩) (by first | omega | (simp only [szA, szS, szD, World.heap_drewN] at * <;> omega)) (.slice au0 c.sems.length pu0)).set (a := ⟨w.heap.size + 1, 1, none⟩) (by first | omega | (simp only [szA, szS, szD, World.heap_drewN] at * <;> omega)) (.slice au1 c.groups.length pu1)).set (a := ⟨w.heap.size + 1, 2, none⟩) (by first | omega | (simp only [szA, szS, szD, World.heap_drewN] at * <;> omega)) (.slice au2 c.barriers.length pu2)).set (a := ⟨w.heap.size + 1, 3, none⟩) (by first | omega | (simp only [szA, szS, szD, World.heap_drewN] at * <;> omega)) (.slice ad4 (c.rooms.length + 1) cp4)).set (a := ⟨w.heap.size + 1, 4, none⟩) (by first | omega | (simp only [szA, szS, szD, World.heap_drewN] at * <;> omega)) (.slice au4 c.threads.length pu4)) (by omega)
        · have e3 : (x == 3) = false := beq_false_of_ne h3
          have ne_out_res : w1.heap.size ≠ w.heap.size + 1 := by omega
          have nf_out_res := ne_out_res.symm
          go_wp2_with (fail)
          refine bodyPost_ret (v := .agg #[.slice au0 c.sems.length pu0, .slice au1 c.groups.length pu1, .slice au2 c.barriers.length pu2, .slice au3 c.rooms.length pu3, .slice au4 c.threads.length pu4]) (by simp [results, Try.results51, go_sem, cres2_0, cres2_1, cres2_2, cres2_3, cres2_4, lres2, cout2_0, cout2_1, cout2_2, cout2_3, cout2_4, lout2, ne_out_res, nf_out_res]) rfl ⟨_, c, rfl, ?_, ?_, ?_⟩
          · exact (ProgOwn.make (((((Ou0_2.out.setB (w.heap.size + 1) 0 Xres_2.out (by decide) (.slice au0 c.sems.length pu0)).setB (w.heap.size + 1) 1 (set_at (a := ⟨w.heap.size + 1, 0, none⟩) Xres_2.out rfl rfl (.slice au0 c.sems.length pu0)) (by decide) (.slice au1 c.groups.length pu1)).setB (w.heap.size + 1) 2 (set_at (a := ⟨w.heap.size + 1, 1, none⟩) (set_at (a := ⟨w.heap.size + 1, 0, none⟩) Xres_2.out rfl rfl (.slice au0 c.sems.length pu0)) rfl rfl (.slice au1 c.groups.length pu1)) (by decide) (.slice au2 c.barriers.length pu2)).setB (w.heap.size + 1) 3 (set_at (a := ⟨w.heap.size + 1, 2, none⟩) (set_at (a := ⟨w.heap.size + 1, 1, none⟩) (set_at (a := ⟨w.heap.size + 1, 0, none⟩) Xres_2.out rfl rfl (.slice au0 c.sems.length pu0)) rfl rfl (.slice au1 c.groups.length pu1)) rfl rfl (.slice au2 c.barriers.length pu2)) (by decide) (.slice au3 c.rooms.length pu3)).setB (w.heap.size + 1) 4 (set_at (a := ⟨w.heap.size + 1, 3, none⟩) (set_at (a := ⟨w.heap.size + 1, 2, none⟩) (set_at (a := ⟨w.heap.size + 1, 1, none⟩) (set_at (a := ⟨w.heap.size + 1, 0, none⟩) Xres_2.out rfl rfl (.slice au0 c.sems.length pu0)) rfl rfl (.slice au1 c.groups.length pu1)) rfl rfl (.slice au2 c.barriers.length pu2)) rfl rfl (.slice au3 c.rooms.length pu3)) (by decide) (.slice au4 c.threads.length pu4)) (((((Ou1_2.out.setB (w.heap.size + 1) 0 Xres_2.out (by decide) (.slice au0 c.sems.length pu0)).setB (w.heap.size + 1) 1 (set_at (a := ⟨w.heap.size + 1, 0, none⟩) Xres_2.out rfl rfl (.slice au0 c.sems.length pu0)) (by decide) (.slice au1 c.groups.length pu1)).setB (w.heap.size + 1) 2 (set_at (a := ⟨w.heap.size + 1, 1, none⟩) (set_at (a := ⟨w.heap.size + 1, 0, none⟩) Xres_2.out rfl rfl (.slice au0 c.sems.length pu0)) rfl rfl (.slice au1 c.groups.length pu1)) (by decide) (.slice au2 c.barriers.length pu2)).setB (w.heap.size + 1) 3 (set_at (a := ⟨w.heap.size + 1, 2, none⟩) (set_at (a := ⟨w.heap.size + 1, 1, none⟩) (set_at (a := ⟨w.heap.size + 1, 0, none⟩) Xres_2.out rfl rfl (.slice au0 c.sems.length pu0)) rfl rfl (.slice au1 c.groups.length pu1)) rfl rfl (.slice au2 c.barriers.length pu2)) (by decide) (.slice au3 c.rooms.length pu3)).setB (w.heap.size + 1) 4 (set_at (a := ⟨w.heap.size + 1, 3, none⟩) (set_at (a := ⟨w.heap.size + 1, 2, none⟩) (set_at (a := ⟨w.heap.size + 1, 1, none⟩) (set_at (a := ⟨w.heap.size + 1, 0, none⟩) Xres_2.out rfl rfl (.slice au0 c.sems.length pu0)) rfl rfl (.slice au1 c.groups.length pu1)) rfl rfl (.slice au2 c.barriers.length pu2)) rfl rfl (.slice au3 c.rooms.length pu3)) (by decide) (.slice au4 c.threads.length pu4)) (((((Ou2_2.out.setB (w.heap.size + 1) 0 Xres_2.out (by decide) (.slice au0 c.sems.length pu0)).setB (w.heap.size + 1) 1 (set_at (a := ⟨w.heap.size + 1, 0, none⟩) Xres_2.out rfl rfl (.slice au0 c.sems.length pu0)) (by decide) (.slice au1 c.groups.length pu1)).setB (w.heap.size + 1) 2 (set_at (a := ⟨w.heap.size + 1, 1, none⟩) (set_at (a := ⟨w.heap.size + 1, 0, none⟩) Xres_2.out rfl rfl (.slice au0 c.sems.length pu0)) rfl rfl (.slice au1 c.groups.length pu1)) (by decide) (.slice au2 c.barriers.length pu2)).setB (w.heap.size + 1) 3 (set_at (a := ⟨w.heap.size + 1, 2, none⟩) (set_at (a := ⟨w.heap.size + 1, 1, none⟩) (set_at (a := ⟨w.heap.size + 1, 0, none⟩) Xres_2.out rfl rfl (.slice au0 c.sems.length pu0)) rfl rfl (.slice au1 c.groups.length pu1)) rfl rfl (.slice au2 c.barriers.length pu2)) (by decide) (.slice au3 c.rooms.length pu3)).setB (w.heap.size + 1) 4 (set_at (a := ⟨w.heap.size + 1, 3, none⟩) (set_at (a := ⟨w.heap.size + 1, 2, none⟩) (set_at (a := ⟨w.heap.size + 1, 1, none⟩) (set_at (a := ⟨w.heap.size + 1, 0, none⟩) Xres_2.out rfl rfl (.slice au0 c.sems.length pu0)) rfl rfl (.slice au1 c.groups.length pu1)) rfl rfl (.slice au2 c.barriers.length pu2)) rfl rfl (.slice au3 c.rooms.length pu3)) (by decide) (.slice au4 c.threads.length pu4)) (((((Ou3_2.out.setB (w.heap.size + 1) 0 Xres_2.out (by decide) (.slice au0 c.sems.length pu0)).setB (w.heap.size + 1) 1 (set_at (a := ⟨w.heap.size + 1, 0, none⟩) Xres_2.out rfl rfl (.slice au0 c.sems.length pu0)) (by decide) (.slice au1 c.groups.length pu1)).setB (w.heap.size + 1) 2 (set_at (a := ⟨w.heap.size + 1, 1, none⟩) (set_at (a := ⟨w.heap.size + 1, 0, none⟩) Xres_2.out rfl rfl (.slice au0 c.sems.length pu0)) rfl rfl (.slice au1 c.groups.length pu1)) (by decide) (.slice au2 c.barriers.length pu2)).setB (w.heap.size + 1) 3 (set_at (a := ⟨w.heap.size + 1, 2, none⟩) (set_at (a := ⟨w.heap.size + 1, 1, none⟩) (set_at (a := ⟨w.heap.size + 1, 0, none⟩) Xres_2.out rfl rfl (.slice au0 c.sems.length pu0)) rfl rfl (.slice au1 c.groups.length pu1)) rfl rfl (.slice au2 c.barriers.length pu2)) (by decide) (.slice au3 c.rooms.length pu3)).setB (w.heap.size + 1) 4 (set_at (a := ⟨w.heap.size + 1, 3, none⟩) (set_at (a := ⟨w.heap.size + 1, 2, none⟩) (set_at (a := ⟨w.heap.size + 1, 1, none⟩) (set_at (a := ⟨w.heap.size + 1, 0, none⟩) Xres_2.out rfl rfl (.slice au0 c.sems.length pu0)) rfl rfl (.slice au1 c.groups.length pu1)) rfl rfl (.slice au2 c.barriers.length pu2)) rfl rfl (.slice au3 c.rooms.length pu3)) (by decide) (.slice au4 c.threads.length pu4)) (((((Ou4_2.out.setB (w.heap.size + 1) 0 Xres_2.out (by decide) (.slice au0 c.sems.length pu0)).setB (w.heap.size + 1) 1 (set_at (a := ⟨w.heap.size + 1, 0, none⟩) Xres_2.out rfl rfl (.slice au0 c.sems.length pu0)) (by decide) (.slice au1 c.groups.length pu1)).setB (w.heap.size + 1) 2 (set_at (a := ⟨w.heap.size + 1, 1, none⟩) (set_at (a := ⟨w.heap.size + 1, 0, none⟩) Xres_2.out rfl rfl (.slice au0 c.sems.length pu0)) rfl rfl (.slice au1 c.groups.length pu1)) (by decide) (.slice au2 c.barriers.length pu2)).setB (w.heap.size + 1) 3 (set_at (a := ⟨w.heap.size + 1, 2, none⟩) (set_at (a := ⟨w.heap.size + 1, 1, none⟩) (set_at (a := ⟨w.heap.size + 1, 0, none⟩) Xres_2.out rfl rfl (.slice au0 c.sems.length pu0)) rfl rfl (.slice au1 c.groups.length pu1)) rfl rfl (.slice au2 c.barriers.length pu2)) (by decide) (.slice au3 c.rooms.length pu3)).setB (w.heap.size + 1) 4 (set_at (a := ⟨w.heap.size + 1, 3, none⟩) (set_at (a := ⟨w.heap.size + 1, 2, none⟩) (set_at (a := ⟨w.heap.size + 1, 1, none⟩) (set_at (a := ⟨w.heap.size + 1, 0, none⟩) Xres_2.out rfl rfl (.slice au0 c.sems.length pu0)) rfl rfl (.slice au1 c.groups.length pu1)) rfl rfl (.slice au2 c.barriers.length pu2)) rfl rfl (.slice au3 c.rooms.length pu3)) (by decide) (.slice au4 c.threads.length pu4)))
          · exact HF.out.upd (by first | (show _ ≤ _; omega) | (simp only [List.length_append, List.length_singleton]; omega) | simp) (by first | (show _ ≤ _; omega) | (simp only [List.length_append, List.length_singleton]; omega) | simp) (by first | (show _ ≤ _; omega) | (simp only [List.length_append, List.length_singleton]; omega) | simp) (by first | (show _ ≤ _; omega) | (simp only [List.length_append, List.length_singleton]; omega) | simp) (by first | (show _ ≤ _; omega) | (simp only [List.length_append, List.length_singleton]; omega) | simp) (fun t ht => .inl ht)
          · exact Dr.mono (((((A2.out.set (a := ⟨w.heap.size + 1, 0, none⟩) (by first | omega | (simp only [szA, szS, szD, World.heap_drewN] at * <;> omega)) (.slice au0 c.sems.length pu0)).set (a := ⟨w.heap.size + 1, 1, none⟩) (by first | omega | (simp only [szA, szS, szD, World.heap_drewN] at * <;> omega)) (.slice au1 c.groups.length pu1)).set (a := ⟨w.heap.size + 1, 2, none⟩) (by first | omega | (simp only [szA, szS, szD, World.heap_drewN] at * <;> omega)) (.slice au2 c.barriers.length pu2)).set (a := ⟨w.heap.size + 1, 3, none⟩) (by first | omega | (simp only [szA, szS, szD, World.heap_drewN] at * <;> omega)) (.slice au3 c.rooms.length pu3)).set (a := ⟨w.heap.size + 1, 4, none⟩) (by first | omega | (simp only [szA, szS, szD, World.heap_drewN] at * <;> omega)) (.slice au4 c.threads.length pu4)) (by omega)
end Go.Proofs.Ytobkammimkgnkaa
