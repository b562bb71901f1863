/- spec.ParseOp: the operation of a text (made by gen_parse.py). -/
import Derived.Test.YthbnbofoefdneaaDoorMake
import Derived.Test.YthbnbofoefdneaaDoorNum
import Derived.Test.YthbnbofoefdneaaDoorCut
import Derived.Test.YthbnbofoefdneaaDoorG1
namespace Go.Proofs.YthbnbofoefdneaaDoor
open Go.RowKit
set_option linter.unusedSimpArgs false
set_option linter.unusedVariables false
theorem ZRow.at {w : World} {a : Option Addr} {n c : Nat} {xs : List ByteArray} (h : Row 1 encZ w (.slice a n c) xs) (hn : 0 < xs.length) : ∃ b off, a = some ⟨b, off, none⟩ ∧ b < w.heap.size ∧ ∀ i x, xs[i]? = some x → w.cell? ⟨b, off + i, none⟩ = some (.string x) := by
  obtain ⟨a', c', e, _, _, h⟩ := ZRow.look h
  injection e with e1 _ _; subst e1; exact h hn
theorem str_eq {s t : ByteArray} (h : s = t) : (s.toList == t.toList) = true ∧ s.toList = t.toList := by subst h; exact ⟨beq_self_eq_true _, rfl⟩
theorem str_ne {s t : ByteArray} (h : ¬ s = t) : (s.toList == t.toList) = false ∧ ¬ s.toList = t.toList := by
  have : ¬ s.toList = t.toList := fun e => h (ba_ext (by rwa [ByteArray.toList_eq, ByteArray.toList_eq] at e))
  exact ⟨beq_eq_false_iff_ne.2 this, this⟩
set_option maxHeartbeats 6400000 in
theorem sParseOp_calls (text : ByteArray) (w : World) (ht : text.size ≤ 2000000) :
    Calls Tryd.prog 5 #[.string text] w fun e w' => ∃ r : Option OpT, e = .returned (.tuple #[opv (optO r), .bool r.isSome]) ∧ ParEnd text r ∧ Below w.heap.size w w' := by
  obtain ⟨ws, hws⟩ : ∃ ws, cutB text 32 = ws := ⟨_, rfl⟩
  have hw1 := (cutB_len text 32).1; have hw2 := (cutB_len text 32).2; have hsz := cutB_sizes text 32
  rw [hws] at hw1 hw2 hsz
  have HWS := Lib.hid hws; have HSZ := Lib.hid hsz; clear hws hsz
  go_enter Tryd.func5, Tryd.ntmps5
  go_wp2_with (fail)
  refine (l13Cut_calls text 32 _ ht).mono ?_
  rw [HWS.out]
  rintro e w1 ⟨v, rfl, ho_z, hb⟩
  have B1 := Lib.hid (Below.trans (Below.alloc (Below.refl _ _) (by first | omega | (simp only [szA, szS, szD, World.heap_drewN] at * <;> omega)) _) (hb.mono (by first | omega | (simp only [szA, szS, szD, World.heap_drewN] at * <;> omega))) : Below w.heap.size w w1)
  have Z1 := hb.size
  have N1 : w.heap.size + 1 ≤ w1.heap.size := (by first | with_reducible exact Z1 | (simp only [szA, szS, szD] at Z1; omega))
  clear Z1
  have Xr_1 : Hid (w1.heap[w.heap.size]? = some (.cells #[.int .i64 0, .int .i64 0, .int .i64 0] 23 (0, 0))) := below_at hb (heap_at' (n := w.heap.size) (by first | omega | (simp only [szA, szS, szD, World.heap_drewN] at * <;> omega)))
  have Oz_1 := Lib.hid (Own.mono (base' := w.heap.size) ho_z (by first | omega | (simp only [szA, szS, szD, World.heap_drewN] at * <;> omega))); obtain ⟨az, pz, rfl⟩ := ho_z.form; clear ho_z
  clear hb
  obtain ⟨cr1_0, cr1_1, cr1_2, fr1_0, fr1_1, fr1_2⟩ := box3 Xr_1.out; have lr1 := heap_lt Xr_1.out
  have S1 : w.heap.size ≤ w1.heap.size := (by omega)
  go_wp2_with (fail)
  go_loopw [5, 6] (fun nv iv wr => ∃ (k : Nat) (ns : List Int) (an : Option Addr) (pn : Nat), nv = .slice an ns.length pn ∧ iv = .int .i64 k ∧ k ≤ 4 ∧ NsInv ws k ns ∧ Own w.heap.size 3 1 encI wr (.slice an ns.length pn) ns ∧ Own w.heap.size 9 1 encZ wr (.slice az ws.length pz) ws ∧ wr.heap[w.heap.size]? = some (.cells #[.int .i64 0, .int .i64 0, .int .i64 0] 23 (0, 0)) ∧ Below w.heap.size w wr) (fun _ iv _ => 4 - (intOf iv).toNat)
  case atStart => exact ⟨1, [], _, _, rfl, rfl, by omega, NsInv.start hw1, Own.empty (heap_at' (n := w1.heap.size) (by first | omega | (simp only [szA, szS, szD, World.heap_drewN] at * <;> omega))) (by omega), (Oz_1.out.alloc _), (heap_up Xr_1.out), (Below.alloc B1.out (by first | omega | (simp only [szA, szS, szD, World.heap_drewN] at * <;> omega)) _)⟩
  case round =>
    obtain ⟨w20, rfl⟩ : ∃ x : World, x = wr := ⟨_, rfl⟩
    obtain ⟨k, ns, an, pn, rfl, rfl, hk, hi, ho, hz, hx, hb⟩ := hrel
    have B20 := Lib.hid hb; have S20 := hb.size; have On_20 := Lib.hid ho; have Oz_20 := Lib.hid hz; have Xr_20 := Lib.hid hx
    have HI := Lib.hid hi
    obtain ⟨hk1, hk2, hnl, hi9⟩ := hi; clear hi9; have hn3 : ns.length ≤ 3 := (by omega); have HNL := Lib.hid hnl; clear hnl
    clear hb ho hz hx
    obtain ⟨cr20_0, cr20_1, cr20_2, fr20_0, fr20_1, fr20_2⟩ := box3 Xr_20.out; have lr20 := heap_lt Xr_20.out
    by_cases hlt4 : k < ws.length ∧ k < 4
    · have hlt : k < ws.length := by omega
      have hk3 : k < 4 := by omega
      have d1 : decide ((k : Int) < (ws.length : Int)) = true := decide_eq_true (by omega)
      have d2 : decide ((k : Int) < 4) = true := decide_eq_true (by omega)
      have i1 : (k : Int) < (ws.length : Int) := by omega
      obtain ⟨p, hp⟩ := get_ex hlt
      have hps := HSZ.out p (get_mem hp)
      obtain ⟨bz, oz, ez, hlz, hcz⟩ := (ZRow.at (Oz_20.out.row encZ_len)) (Nat.lt_of_le_of_lt (Nat.zero_le _) (get_lt hp))
      subst ez
      have cz := hcz _ _ hp
      clear hcz
      have HP := Lib.hid hp; clear hp
      rcases hn : numB p with _ | n
      · have HN := Lib.hid hn; clear hn
        have HE : Hid (ParEnd text none) := Lib.hid (parB_bad (by rw [HWS.out]; exact NsInv.bad hk1 HP.out HN.out))
        go_wp2_with (fail)
        refine (l13Num_calls p _ (by omega)).mono ?_
        rw [HN.out]
        rintro e w21 ⟨rfl, hb⟩
        have B21 := Lib.hid (Below.trans B20.out (hb.mono (by first | omega | (simp only [szA, szS, szD, World.heap_drewN] at * <;> omega))) : Below w.heap.size w w21)
        have Z21 := hb.size
        have N21 : w20.heap.size ≤ w21.heap.size := (by first | with_reducible exact Z21 | (simp only [szA, szS, szD] at Z21; omega))
        clear Z21
        have Xr_21 := Lib.hid (below_at hb Xr_20.out)
        have On_21 := Lib.hid (On_20.out.kept hb)
        have Oz_21 := Lib.hid (Oz_20.out.kept hb)
        clear hb
        obtain ⟨cr21_0, cr21_1, cr21_2, fr21_0, fr21_1, fr21_2⟩ := box3 Xr_21.out; have lr21 := heap_lt Xr_21.out
        have S21 : w.heap.size ≤ w21.heap.size := (by omega)
        go_wp2_with (fail)
        refine bodyPost_ret (v := .tuple #[.agg #[.int .i64 0, .int .i64 0, .int .i64 0], .bool false]) (by simp [results, Tryd.results5, go_sem, cr21_0, cr21_1, cr21_2, lr21]) rfl ⟨none, rfl, HE.out, (below_setAt (below_setAt (below_setAt B21.out (w.heap.size) 0 (by first | omega | (simp only [szA, szS, szD, World.heap_drewN] at * <;> omega)) (.int .i64 0)) (w.heap.size) 1 (by first | omega | (simp only [szA, szS, szD, World.heap_drewN] at * <;> omega)) (.int .i64 0)) (w.heap.size) 2 (by first | omega | (simp only [szA, szS, szD, World.heap_drewN] at * <;> omega)) (.int .i64 0))⟩
      · have HN := Lib.hid hn; clear hn
        have HI2 := Lib.hid (HI.out.step HP.out HN.out)
        go_wp2_with (fail)
        refine (l13Num_calls p _ (by omega)).mono ?_
        rw [HN.out]
        rintro e w21 ⟨rfl, hb⟩
        have B21 := Lib.hid (Below.trans B20.out (hb.mono (by first | omega | (simp only [szA, szS, szD, World.heap_drewN] at * <;> omega))) : Below w.heap.size w w21)
        have Z21 := hb.size
        have N21 : w20.heap.size ≤ w21.heap.size := (by first | with_reducible exact Z21 | (simp only [szA, szS, szD] at Z21; omega))
        clear Z21
        have Xr_21 := Lib.hid (below_at hb Xr_20.out)
        have On_21 := Lib.hid (On_20.out.kept hb)
        have Oz_21 := Lib.hid (Oz_20.out.kept hb)
        clear hb
        obtain ⟨cr21_0, cr21_1, cr21_2, fr21_0, fr21_1, fr21_2⟩ := box3 Xr_21.out; have lr21 := heap_lt Xr_21.out
        have S21 : w.heap.size ≤ w21.heap.size := (by omega)
        go_wp2_with (at_builtin; refine wpList_snoc _ encI_len encI_one rfl _ _ 31 rfl 3 _ 8 Tryd.underlying31 info_int rfl (by decide) w.heap.size (.slice an ns.length pn) ns rfl On_21.out n _ rfl _ rfl (by first | omega | (simp only [szA, szS, szD, World.heap_drewN] at * <;> omega)) (by decide) (by omega) (by first | omega | (simp only [szA, szS, szD, World.heap_drewN] at * <;> omega)) ?_; intro ad22 cp22 w22 hown hg hat; obtain ⟨nL22, hnL22⟩ : ∃ l, ns ++ [n] = l := ⟨_, rfl⟩; have lnL22 : ns.length + 1 = nL22.length := (by rw [← hnL22, List.length_append, List.length_singleton]); rw [hnL22, lnL22] at hown; rw [lnL22]; have HnL22 := Lib.hid hnL22; clear hnL22; have KnL22 := Lib.hid lnL22; clear lnL22; rw [KnL22.out] at hat; clear hat; have Xr_22 := Lib.hid (grown_at2 hg (heap_up Xr_21.out) (On_21.out.ne Xr_21.out (by decide))); have Oz_22 := Lib.hid ((Oz_21.out.alloc _).apart hg (Own.apart_types On_21.out Oz_21.out (by decide))); have On_22 := Lib.hid hown; have B22 := Lib.hid (Below.grown (Below.alloc B21.out (by first | omega | (simp only [szA, szS, szD, World.heap_drewN] at * <;> omega)) _) hg (by first | omega | (simp only [szA, szS, szD, World.heap_drewN]; omega)) (fun g e => Nat.le_trans (by omega) (On_21.out.blk g e))); have N22 : w21.heap.size + 1 ≤ w22.heap.size := (by first | with_reducible exact hg.size | (have := hg.size; simp only [szA, szS, szD] at this; omega)); clear hown hg; obtain ⟨cr22_0, cr22_1, cr22_2, fr22_0, fr22_1, fr22_2⟩ := box3 Xr_22.out; have lr22 := heap_lt Xr_22.out; have S22 : w.heap.size ≤ w22.heap.size := (by omega))
        clear cr21_0 cr21_1 cr21_2 fr21_0 fr21_1 fr21_2
        go_roundw
        case rel => exact ⟨k + 1, nL22, _, _, rfl, by go_num, by omega, by rw [← HnL22.out]; exact HI2.out, On_22.out, Oz_22.out, Xr_22.out, B22.out⟩
        case measure => (simp [intOf] <;> omega)
    · have d1 : (decide ((k : Int) < (ws.length : Int)) && decide ((k : Int) < 4)) = false := by rw [Bool.and_eq_false_iff]; rcases Nat.lt_or_ge k ws.length with h | h; exact .inr (decide_eq_false (by omega)); exact .inl (decide_eq_false (by omega))
      by_cases h4 : 4 < ws.length
      · have HE : Hid (ParEnd text none) := Lib.hid (parB_many (by rw [HWS.out]; exact h4))
        have d2 : decide ((k : Int) < (ws.length : Int)) = true := decide_eq_true (by omega)
        have d3 : decide ((k : Int) < 4) = false := decide_eq_false (by omega)
        have d4 : ((ns.length : Int) == (ws.length : Int) - 1) = false := beq_eq_false_iff_ne.2 (by have := HNL.out; omega)
        go_wp2
        go_loopw [9] (fun jv wr => jv = .int .i64 1 ∧ wr = w20) (fun _ _ => 0)
        case atStart => exact ⟨rfl, rfl⟩
        case round =>
          obtain ⟨rfl, rfl⟩ := hrel
          go_wp2_with (fail)
          refine bodyPost_ret (v := .tuple #[.agg #[.int .i64 0, .int .i64 0, .int .i64 0], .bool false]) (by simp [results, Tryd.results5, go_sem, cr20_0, cr20_1, cr20_2, lr20]) rfl ⟨none, rfl, HE.out, (below_setAt (below_setAt (below_setAt B20.out (w.heap.size) 0 (by first | omega | (simp only [szA, szS, szD, World.heap_drewN] at * <;> omega)) (.int .i64 0)) (w.heap.size) 1 (by first | omega | (simp only [szA, szS, szD, World.heap_drewN] at * <;> omega)) (.int .i64 0)) (w.heap.size) 2 (by first | omega | (simp only [szA, szS, szD, World.heap_drewN] at * <;> omega)) (.int .i64 0))⟩
      · obtain rfl : k = ws.length := by omega
        have HA : Hid (numsL ((cutB text 32).drop 1) = some ns) := Lib.hid (by rw [HWS.out]; exact HI.out.all)
        have HS := Lib.hid HI.out.small
        have d2 : decide ((ws.length : Int) < (ws.length : Int)) = false := decide_eq_false (by omega)
        have d4 : ((ns.length : Int) == (ws.length : Int) - 1) = true := beq_iff_eq.2 (by have := HNL.out; omega)
        clear d1
        go_wp2
        go_loopw [9] (fun jv wr => ∃ j : Int, jv = .int .i64 j ∧ KInv text ns j ∧ Own w.heap.size 3 1 encI wr (.slice an ns.length pn) ns ∧ Own w.heap.size 9 1 encZ wr (.slice az ws.length pz) ws ∧ wr.heap[w.heap.size]? = some (.cells #[.int .i64 0, .int .i64 0, .int .i64 0] 23 (0, 0)) ∧ Below w.heap.size w wr) (fun jv _ => (11 - intOf jv).toNat)
        case atStart => exact ⟨1, rfl, KInv.start _ _, On_20.out, Oz_20.out, Xr_20.out, B20.out⟩
        case round =>
          obtain ⟨w40, rfl⟩ : ∃ x : World, x = wr := ⟨_, rfl⟩
          obtain ⟨j, rfl, hi, ho, hz, hx, hb⟩ := hrel
          have B40 := Lib.hid hb; have S40 := hb.size; have On_40 := Lib.hid ho; have Oz_40 := Lib.hid hz; have Xr_40 := Lib.hid hx
          have HI40 := Lib.hid hi
          obtain ⟨hj1, hj2, hi9⟩ := hi; clear hi9
          clear hb ho hz hx
          obtain ⟨cr40_0, cr40_1, cr40_2, fr40_0, fr40_1, fr40_2⟩ := box3 Xr_40.out; have lr40 := heap_lt Xr_40.out
          by_cases hj : j ≤ 10
          · have d5 : decide (j ≤ 10) = true := decide_eq_true hj
            have hw0 : 0 < ws.length := hw1
            obtain ⟨p, hp⟩ := get_ex hw1
            have c0 := hp
            clear c0
            obtain ⟨bz, oz, ez, hlz, hcz⟩ := (ZRow.at (Oz_40.out.row encZ_len)) (Nat.lt_of_le_of_lt (Nat.zero_le _) (get_lt hp))
            subst ez
            have cz := hcz _ _ hp
            clear hcz
            simp only [Nat.add_zero] at cz
            have HP := Lib.hid hp; clear hp
            obtain ⟨s, hs⟩ : ∃ s, wordB j = s := ⟨_, rfl⟩
            have HW := Lib.hid hs; clear hs
            by_cases he : s = p
            · have q1 := str_eq he
              have HEQ := Lib.hid he; clear he
              go_wp2_with (fail)
              have hN0 : w40.heap.size ≤ w40.heap.size := (by first | omega | (simp only [szA, szS, szD, World.heap_drewN] at * <;> omega))
              have c0_0 := cz
              refine wp_region_L [⟨0, false, [], fun _ v _ => v = .int .i64 j⟩, ⟨1, false, [0], fun _ v _ => v = .string s⟩, ⟨2, false, [], fun _ v _ => v = .slice (some ⟨bz, oz, none⟩) ws.length pz⟩, ⟨3, false, [2], fun _ v _ => v = .pointer (some ⟨bz, oz, none⟩)⟩, ⟨4, false, [2, 3], fun _ v _ => v = .string p⟩, ⟨5, false, [0, 1, 2, 3, 4], fun _ v _ => v = .bool false⟩] [(0, some 52), (1, some 53), (2, some 54), (3, some 55), (4, some 56), (5, some 57)] (fun _ w' => Below w.heap.size w w' ∧ w40.heap.size ≤ w'.heap.size ∧ w'.heap[w.heap.size]? = some (.cells #[.int .i64 0, .int .i64 0, .int .i64 0] 23 (0, 0)) ∧ Own w.heap.size 3 1 encI w' (.slice an ns.length pn) ns ∧ Own w.heap.size 9 1 encZ w' (.slice (some ⟨bz, oz, none⟩) ws.length pz) ws ∧ w'.cell? ⟨bz, oz, none⟩ = some (.string p)) (fun _ _ _ => True) (by kernel_rfl) (by rfl) (by kernel_rfl) (by kernel_rfl) ⟨(B40.out).drew, hN0, (heap_drew Xr_40.out), On_40.out, Oz_40.out, c0_0⟩ (GoalsL.cons ?_ (GoalsL.cons ?_ (GoalsL.cons ?_ (GoalsL.cons ?_ (GoalsL.cons ?_ (GoalsL.cons ?_ (GoalsL.nil))))))) ?_
              · refine GoalL.mk (by rfl) ⟨fun _ _ _ _ _ h => h, fun _ _ _ _ _ _ h => h⟩ ?_
                intro f u wq hf hC hD K hK
                have hA := hC.1; have hN := hC.2.1; have x_r := hC.2.2.1; have o_n := hC.2.2.2.1; have o_z := hC.2.2.2.2.1; have c_0 := hC.2.2.2.2.2; clear hC
                clear hD
                simp only [putL, Act.put, List.setIfInBounds_toArray, List.set_cons_zero, List.set_cons_succ] at hK ⊢
                refine Closed.mk ?_
                go_simp
                exact hK.out _ _ ⟨hA, hN, x_r, o_n, o_z, c_0⟩ trivial rfl
              · refine GoalL.mk (by rfl) ⟨fun _ _ _ _ _ h => h, fun _ _ _ _ _ _ h => h⟩ ?_
                intro f u wq hf hC hD K hK
                have hA := hC.1; have hN := hC.2.1; have x_r := hC.2.2.1; have o_n := hC.2.2.2.1; have o_z := hC.2.2.2.2.1; have c_0 := hC.2.2.2.2.2; clear hC
                have d0 := hD.1; clear hD
                have e0 : u 0 = .int .i64 j := d0; clear d0
                simp only [putL, Act.put, List.setIfInBounds_toArray, List.set_cons_zero, List.set_cons_succ, e0] at hK ⊢
                refine Closed.mk ?_
                go_simp
                refine (l6Word_calls j _).mono ?_
                rw [HW.out]
                rintro e wr ⟨rfl, hb⟩
                exact hK.out _ _ ⟨Below.trans hA (hb.mono hA.size), Nat.le_trans hN hb.size, (below_at hb x_r), (o_n.kept hb), (o_z.kept hb), ((hb.cell (p := ⟨bz, oz, none⟩) (Nat.lt_of_lt_of_le (hlz) hN)).trans c_0)⟩ trivial rfl
              · refine GoalL.mk (by rfl) ⟨fun _ _ _ _ _ h => h, fun _ _ _ _ _ _ h => h⟩ ?_
                intro f u wq hf hC hD K hK
                have hA := hC.1; have hN := hC.2.1; have x_r := hC.2.2.1; have o_n := hC.2.2.2.1; have o_z := hC.2.2.2.2.1; have c_0 := hC.2.2.2.2.2; clear hC
                clear hD
                simp only [putL, Act.put, List.setIfInBounds_toArray, List.set_cons_zero, List.set_cons_succ] at hK ⊢
                refine Closed.mk ?_
                go_simp
                exact hK.out _ _ ⟨hA, hN, x_r, o_n, o_z, c_0⟩ trivial rfl
              · refine GoalL.mk (by rfl) ⟨fun _ _ _ _ _ h => h, fun _ _ _ _ _ _ h => h⟩ ?_
                intro f u wq hf hC hD K hK
                have hA := hC.1; have hN := hC.2.1; have x_r := hC.2.2.1; have o_n := hC.2.2.2.1; have o_z := hC.2.2.2.2.1; have c_0 := hC.2.2.2.2.2; clear hC
                have d2 := hD.1; clear hD
                have e2 : u 2 = .slice (some ⟨bz, oz, none⟩) ws.length pz := d2; clear d2
                simp only [putL, Act.put, List.setIfInBounds_toArray, List.set_cons_zero, List.set_cons_succ, e2] at hK ⊢
                refine Closed.mk ?_
                go_simp
                exact hK.out _ _ ⟨hA, hN, x_r, o_n, o_z, c_0⟩ trivial rfl
              · refine GoalL.mk (by rfl) ⟨fun _ _ _ _ _ h => h, fun _ _ _ _ _ _ h => h⟩ ?_
                intro f u wq hf hC hD K hK
                have hA := hC.1; have hN := hC.2.1; have x_r := hC.2.2.1; have o_n := hC.2.2.2.1; have o_z := hC.2.2.2.2.1; have c_0 := hC.2.2.2.2.2; clear hC
                have d2 := hD.1; have d3 := hD.2.1; clear hD
                have e2 : u 2 = .slice (some ⟨bz, oz, none⟩) ws.length pz := d2; clear d2
                have e3 : u 3 = .pointer (some ⟨bz, oz, none⟩) := d3; clear d3
                simp only [putL, Act.put, List.setIfInBounds_toArray, List.set_cons_zero, List.set_cons_succ, e2, e3] at hK ⊢
                refine Closed.mk ?_
                go_simp
                exact hK.out _ _ ⟨hA, hN, x_r, o_n, o_z, c_0⟩ trivial rfl
              · refine GoalL.mk (by rfl) ⟨fun _ _ _ _ _ h => h, fun _ _ _ _ _ _ h => h⟩ ?_
                intro f u wq hf hC hD K hK
                have hA := hC.1; have hN := hC.2.1; have x_r := hC.2.2.1; have o_n := hC.2.2.2.1; have o_z := hC.2.2.2.2.1; have c_0 := hC.2.2.2.2.2; clear hC
                have d0 := hD.1; have d1 := hD.2.1; have d2 := hD.2.2.1; have d3 := hD.2.2.2.1; have d4 := hD.2.2.2.2.1; clear hD
                have e0 : u 0 = .int .i64 j := d0; clear d0
                have e1 : u 1 = .string s := d1; clear d1
                have e2 : u 2 = .slice (some ⟨bz, oz, none⟩) ws.length pz := d2; clear d2
                have e3 : u 3 = .pointer (some ⟨bz, oz, none⟩) := d3; clear d3
                have e4 : u 4 = .string p := d4; clear d4
                simp only [putL, Act.put, List.setIfInBounds_toArray, List.set_cons_zero, List.set_cons_succ, e0, e1, e2, e3, e4] at hK ⊢
                refine Closed.mk ?_
                go_simp
                exact hK.out _ _ ⟨hA, hN, x_r, o_n, o_z, c_0⟩ trivial rfl
              intro u w41 hC hD
              have hA := hC.1; have hN := hC.2.1; have x_r := hC.2.2.1; have o_n := hC.2.2.2.1; have o_z := hC.2.2.2.2.1; have c_0 := hC.2.2.2.2.2; clear hC
              have d0 := hD.1; have d1 := hD.2.1; have d2 := hD.2.2.1; have d3 := hD.2.2.2.1; have d4 := hD.2.2.2.2.1; have d5 := hD.2.2.2.2.2.1; clear hD
              have e0 : u 0 = .int .i64 j := d0; clear d0
              have e1 : u 1 = .string s := d1; clear d1
              have e2 : u 2 = .slice (some ⟨bz, oz, none⟩) ws.length pz := d2; clear d2
              have e3 : u 3 = .pointer (some ⟨bz, oz, none⟩) := d3; clear d3
              have e4 : u 4 = .string p := d4; clear d4
              have e5 : u 5 = .bool false := d5; clear d5
              have B41 := Lib.hid hA; have N41 := hN; have S41 := hA.size
              have Xr_41 := Lib.hid x_r; clear x_r
              have On_41 := Lib.hid o_n; clear o_n
              have Oz_41 := Lib.hid o_z; clear o_z
              obtain ⟨cr41_0, cr41_1, cr41_2, fr41_0, fr41_1, fr41_2⟩ := box3 Xr_41.out; have lr41 := heap_lt Xr_41.out
              clear hA hN
              simp only [putL, Act.put, List.setIfInBounds_toArray, List.set_cons_zero, List.set_cons_succ, e0, e1, e2, e3, e4, e5]
              refine Closed.mk (wpAnyH_done (by kernel_rfl) ?_ _)
              clear cz hlz q1
              obtain ⟨m, hm⟩ : ∃ m, makeB j ns = m := ⟨_, rfl⟩
              have HM := Lib.hid hm; clear hm
              go_wp2_with (fail)
              refine (l6Make_calls _ j ns _ (On_41.out.row encI_len)).mono ?_
              rw [HM.out]
              rintro e w42 ⟨rfl, hb⟩
              have B42 := Lib.hid (Below.trans B41.out (hb.mono (by first | omega | (simp only [szA, szS, szD, World.heap_drewN] at * <;> omega))) : Below w.heap.size w w42)
              have Z42 := hb.size
              have N42 : w41.heap.size ≤ w42.heap.size := (by first | with_reducible exact Z42 | (simp only [szA, szS, szD] at Z42; omega))
              clear Z42
              have Xr_42 := Lib.hid (below_at hb Xr_41.out)
              have On_42 := Lib.hid (On_41.out.kept hb)
              have Oz_42 := Lib.hid (Oz_41.out.kept hb)
              clear hb
              obtain ⟨cr42_0, cr42_1, cr42_2, fr42_0, fr42_1, fr42_2⟩ := box3 Xr_42.out; have lr42 := heap_lt Xr_42.out
              have S42 : w.heap.size ≤ w42.heap.size := (by omega)
              rcases m with _ | ⟨x0, x1, x2⟩
              · go_wp2_with (fail)
                go_roundw
                case rel => exact ⟨j + 1, by go_num, HI40.out.step (by omega) (fun x hx => by have h2 := hx.2.1; rw [HM.out] at h2; cases h2), (On_42.out.alloc _), (Oz_42.out.alloc _), (heap_up Xr_42.out), (Below.alloc B42.out (by first | omega | (simp only [szA, szS, szD, World.heap_drewN] at * <;> omega)) _)⟩
                case measure => (simp [intOf] <;> omega)
              · obtain ⟨b1, b2⟩ := makeB_inB HM.out HS.out
                have HB1 := Lib.hid b1.inB; have HB2 := Lib.hid b2.inB; clear b1 b2
                obtain ⟨t, ht2⟩ : ∃ t, opText (x0, x1, x2) = t := ⟨_, rfl⟩
                have HT := Lib.hid ht2; clear ht2
                go_wp2_with (fail)
                refine (sFormatOp_calls (x0, x1, x2) _ HB1.out HB2.out).mono ?_
                rw [HT.out]
                rintro e w43 ⟨rfl, hb⟩
                have B43 := Lib.hid (Below.trans (Below.alloc B42.out (by first | omega | (simp only [szA, szS, szD, World.heap_drewN] at * <;> omega)) _) (hb.mono (by first | omega | (simp only [szA, szS, szD, World.heap_drewN] at * <;> omega))) : Below w.heap.size w w43)
                have Z43 := hb.size
                have N43 : w42.heap.size + 1 ≤ w43.heap.size := (by first | with_reducible exact Z43 | (simp only [szA, szS, szD] at Z43; omega))
                clear Z43
                have Xr_43 := Lib.hid (below_at hb (heap_up Xr_42.out))
                have Xo_43 : Hid (w43.heap[w42.heap.size]? = some (.cells #[.int .i64 x0, .int .i64 x1, .int .i64 x2] 23 (0, 0))) := below_at hb (heap_at' (n := w42.heap.size) (by first | omega | (simp only [szA, szS, szD, World.heap_drewN] at * <;> omega)))
                have On_43 := Lib.hid ((On_42.out.alloc _).kept hb)
                have Oz_43 := Lib.hid ((Oz_42.out.alloc _).kept hb)
                clear hb
                obtain ⟨cr43_0, cr43_1, cr43_2, fr43_0, fr43_1, fr43_2⟩ := box3 Xr_43.out; have lr43 := heap_lt Xr_43.out
                obtain ⟨co43_0, co43_1, co43_2, fo43_0, fo43_1, fo43_2⟩ := box3 Xo_43.out; have lo43 := heap_lt Xo_43.out
                have S43 : w.heap.size ≤ w43.heap.size := (by omega)
                clear cr42_0 cr42_1 cr42_2 fr42_0 fr42_1 fr42_2
                by_cases hf : t = text
                · have q2 := str_eq hf
                  have HE : Hid (ParEnd text (some (x0, x1, x2))) := Lib.hid (HI40.out.hit hj HA.out hn3 (by rw [HWS.out, HP.out, HW.out, HEQ.out]) HM.out (by rw [HT.out, hf]))
                  clear hf
                  have nro : w.heap.size ≠ w42.heap.size := by omega
                  have nro2 := nro.symm
                  go_wp2_with (fail)
                  refine bodyPost_ret (v := .tuple #[.agg #[.int .i64 x0, .int .i64 x1, .int .i64 x2], .bool true]) (by simp [results, Tryd.results5, go_sem, cr43_0, cr43_1, cr43_2, lr43, co43_0, co43_1, co43_2, lo43, nro, nro2]) rfl ⟨some (x0, x1, x2), rfl, HE.out, (below_setAt (below_setAt (below_setAt B43.out (w.heap.size) 0 (by first | omega | (simp only [szA, szS, szD, World.heap_drewN] at * <;> omega)) (.int .i64 x0)) (w.heap.size) 1 (by first | omega | (simp only [szA, szS, szD, World.heap_drewN] at * <;> omega)) (.int .i64 x1)) (w.heap.size) 2 (by first | omega | (simp only [szA, szS, szD, World.heap_drewN] at * <;> omega)) (.int .i64 x2))⟩
                · have q2 := str_ne hf
                  have HF := Lib.hid hf; clear hf
                  go_wp2_with (fail)
                  go_roundw
                  case rel => exact ⟨j + 1, by go_num, HI40.out.step (by omega) (fun x hx => by have h2 := hx.2.1; rw [HM.out] at h2; cases h2; exact HF.out (by rw [← HT.out]; exact hx.2.2)), On_43.out, Oz_43.out, Xr_43.out, B43.out⟩
                  case measure => (simp [intOf] <;> omega)
            · have q1 := str_ne he
              have HNE := Lib.hid he; clear he
              go_wp2_with (fail)
              have hN0 : w40.heap.size ≤ w40.heap.size := (by first | omega | (simp only [szA, szS, szD, World.heap_drewN] at * <;> omega))
              have c0_0 := cz
              refine wp_region_L [⟨0, false, [], fun _ v _ => v = .int .i64 j⟩, ⟨1, false, [0], fun _ v _ => v = .string s⟩, ⟨2, false, [], fun _ v _ => v = .slice (some ⟨bz, oz, none⟩) ws.length pz⟩, ⟨3, false, [2], fun _ v _ => v = .pointer (some ⟨bz, oz, none⟩)⟩, ⟨4, false, [2, 3], fun _ v _ => v = .string p⟩, ⟨5, false, [0, 1, 2, 3, 4], fun _ v _ => v = .bool true⟩] [(0, some 52), (1, some 53), (2, some 54), (3, some 55), (4, some 56), (5, some 57)] (fun _ w' => Below w.heap.size w w' ∧ w40.heap.size ≤ w'.heap.size ∧ w'.heap[w.heap.size]? = some (.cells #[.int .i64 0, .int .i64 0, .int .i64 0] 23 (0, 0)) ∧ Own w.heap.size 3 1 encI w' (.slice an ns.length pn) ns ∧ Own w.heap.size 9 1 encZ w' (.slice (some ⟨bz, oz, none⟩) ws.length pz) ws ∧ w'.cell? ⟨bz, oz, none⟩ = some (.string p)) (fun _ _ _ => True) (by kernel_rfl) (by rfl) (by kernel_rfl) (by kernel_rfl) ⟨(B40.out).drew, hN0, (heap_drew Xr_40.out), On_40.out, Oz_40.out, c0_0⟩ (GoalsL.cons ?_ (GoalsL.cons ?_ (GoalsL.cons ?_ (GoalsL.cons ?_ (GoalsL.cons ?_ (GoalsL.cons ?_ (GoalsL.nil))))))) ?_
              · refine GoalL.mk (by rfl) ⟨fun _ _ _ _ _ h => h, fun _ _ _ _ _ _ h => h⟩ ?_
                intro f u wq hf hC hD K hK
                have hA := hC.1; have hN := hC.2.1; have x_r := hC.2.2.1; have o_n := hC.2.2.2.1; have o_z := hC.2.2.2.2.1; have c_0 := hC.2.2.2.2.2; clear hC
                clear hD
                simp only [putL, Act.put, List.setIfInBounds_toArray, List.set_cons_zero, List.set_cons_succ] at hK ⊢
                refine Closed.mk ?_
                go_simp
                exact hK.out _ _ ⟨hA, hN, x_r, o_n, o_z, c_0⟩ trivial rfl
              · refine GoalL.mk (by rfl) ⟨fun _ _ _ _ _ h => h, fun _ _ _ _ _ _ h => h⟩ ?_
                intro f u wq hf hC hD K hK
                have hA := hC.1; have hN := hC.2.1; have x_r := hC.2.2.1; have o_n := hC.2.2.2.1; have o_z := hC.2.2.2.2.1; have c_0 := hC.2.2.2.2.2; clear hC
                have d0 := hD.1; clear hD
                have e0 : u 0 = .int .i64 j := d0; clear d0
                simp only [putL, Act.put, List.setIfInBounds_toArray, List.set_cons_zero, List.set_cons_succ, e0] at hK ⊢
                refine Closed.mk ?_
                go_simp
                refine (l6Word_calls j _).mono ?_
                rw [HW.out]
                rintro e wr ⟨rfl, hb⟩
                exact hK.out _ _ ⟨Below.trans hA (hb.mono hA.size), Nat.le_trans hN hb.size, (below_at hb x_r), (o_n.kept hb), (o_z.kept hb), ((hb.cell (p := ⟨bz, oz, none⟩) (Nat.lt_of_lt_of_le (hlz) hN)).trans c_0)⟩ trivial rfl
              · refine GoalL.mk (by rfl) ⟨fun _ _ _ _ _ h => h, fun _ _ _ _ _ _ h => h⟩ ?_
                intro f u wq hf hC hD K hK
                have hA := hC.1; have hN := hC.2.1; have x_r := hC.2.2.1; have o_n := hC.2.2.2.1; have o_z := hC.2.2.2.2.1; have c_0 := hC.2.2.2.2.2; clear hC
                clear hD
                simp only [putL, Act.put, List.setIfInBounds_toArray, List.set_cons_zero, List.set_cons_succ] at hK ⊢
                refine Closed.mk ?_
                go_simp
                exact hK.out _ _ ⟨hA, hN, x_r, o_n, o_z, c_0⟩ trivial rfl
              · refine GoalL.mk (by rfl) ⟨fun _ _ _ _ _ h => h, fun _ _ _ _ _ _ h => h⟩ ?_
                intro f u wq hf hC hD K hK
                have hA := hC.1; have hN := hC.2.1; have x_r := hC.2.2.1; have o_n := hC.2.2.2.1; have o_z := hC.2.2.2.2.1; have c_0 := hC.2.2.2.2.2; clear hC
                have d2 := hD.1; clear hD
                have e2 : u 2 = .slice (some ⟨bz, oz, none⟩) ws.length pz := d2; clear d2
                simp only [putL, Act.put, List.setIfInBounds_toArray, List.set_cons_zero, List.set_cons_succ, e2] at hK ⊢
                refine Closed.mk ?_
                go_simp
                exact hK.out _ _ ⟨hA, hN, x_r, o_n, o_z, c_0⟩ trivial rfl
              · refine GoalL.mk (by rfl) ⟨fun _ _ _ _ _ h => h, fun _ _ _ _ _ _ h => h⟩ ?_
                intro f u wq hf hC hD K hK
                have hA := hC.1; have hN := hC.2.1; have x_r := hC.2.2.1; have o_n := hC.2.2.2.1; have o_z := hC.2.2.2.2.1; have c_0 := hC.2.2.2.2.2; clear hC
                have d2 := hD.1; have d3 := hD.2.1; clear hD
                have e2 : u 2 = .slice (some ⟨bz, oz, none⟩) ws.length pz := d2; clear d2
                have e3 : u 3 = .pointer (some ⟨bz, oz, none⟩) := d3; clear d3
                simp only [putL, Act.put, List.setIfInBounds_toArray, List.set_cons_zero, List.set_cons_succ, e2, e3] at hK ⊢
                refine Closed.mk ?_
                go_simp
                exact hK.out _ _ ⟨hA, hN, x_r, o_n, o_z, c_0⟩ trivial rfl
              · refine GoalL.mk (by rfl) ⟨fun _ _ _ _ _ h => h, fun _ _ _ _ _ _ h => h⟩ ?_
                intro f u wq hf hC hD K hK
                have hA := hC.1; have hN := hC.2.1; have x_r := hC.2.2.1; have o_n := hC.2.2.2.1; have o_z := hC.2.2.2.2.1; have c_0 := hC.2.2.2.2.2; clear hC
                have d0 := hD.1; have d1 := hD.2.1; have d2 := hD.2.2.1; have d3 := hD.2.2.2.1; have d4 := hD.2.2.2.2.1; clear hD
                have e0 : u 0 = .int .i64 j := d0; clear d0
                have e1 : u 1 = .string s := d1; clear d1
                have e2 : u 2 = .slice (some ⟨bz, oz, none⟩) ws.length pz := d2; clear d2
                have e3 : u 3 = .pointer (some ⟨bz, oz, none⟩) := d3; clear d3
                have e4 : u 4 = .string p := d4; clear d4
                simp only [putL, Act.put, List.setIfInBounds_toArray, List.set_cons_zero, List.set_cons_succ, e0, e1, e2, e3, e4] at hK ⊢
                refine Closed.mk ?_
                go_simp
                exact hK.out _ _ ⟨hA, hN, x_r, o_n, o_z, c_0⟩ trivial rfl
              intro u w41 hC hD
              have hA := hC.1; have hN := hC.2.1; have x_r := hC.2.2.1; have o_n := hC.2.2.2.1; have o_z := hC.2.2.2.2.1; have c_0 := hC.2.2.2.2.2; clear hC
              have d0 := hD.1; have d1 := hD.2.1; have d2 := hD.2.2.1; have d3 := hD.2.2.2.1; have d4 := hD.2.2.2.2.1; have d5 := hD.2.2.2.2.2.1; clear hD
              have e0 : u 0 = .int .i64 j := d0; clear d0
              have e1 : u 1 = .string s := d1; clear d1
              have e2 : u 2 = .slice (some ⟨bz, oz, none⟩) ws.length pz := d2; clear d2
              have e3 : u 3 = .pointer (some ⟨bz, oz, none⟩) := d3; clear d3
              have e4 : u 4 = .string p := d4; clear d4
              have e5 : u 5 = .bool true := d5; clear d5
              have B41 := Lib.hid hA; have N41 := hN; have S41 := hA.size
              have Xr_41 := Lib.hid x_r; clear x_r
              have On_41 := Lib.hid o_n; clear o_n
              have Oz_41 := Lib.hid o_z; clear o_z
              obtain ⟨cr41_0, cr41_1, cr41_2, fr41_0, fr41_1, fr41_2⟩ := box3 Xr_41.out; have lr41 := heap_lt Xr_41.out
              clear hA hN
              simp only [putL, Act.put, List.setIfInBounds_toArray, List.set_cons_zero, List.set_cons_succ, e0, e1, e2, e3, e4, e5]
              refine Closed.mk (wpAnyH_done (by kernel_rfl) ?_ _)
              go_wp2_with (fail)
              go_roundw
              case rel => exact ⟨j + 1, by go_num, HI40.out.step (by omega) (fun x hx => by have h2 := hx.1; rw [HWS.out, HP.out, HW.out] at h2; exact HNE.out (Option.some.inj h2).symm), On_41.out, Oz_41.out, Xr_41.out, B41.out⟩
              case measure => (simp [intOf] <;> omega)
          · have d5 : decide (j ≤ 10) = false := decide_eq_false hj
            have HE : Hid (ParEnd text none) := Lib.hid (HI40.out.done (by omega) HA.out)
            go_wp2_with (fail)
            refine bodyPost_ret (v := .tuple #[.agg #[.int .i64 0, .int .i64 0, .int .i64 0], .bool false]) (by simp [results, Tryd.results5, go_sem, cr40_0, cr40_1, cr40_2, lr40]) rfl ⟨none, rfl, HE.out, (below_setAt (below_setAt (below_setAt B40.out (w.heap.size) 0 (by first | omega | (simp only [szA, szS, szD, World.heap_drewN] at * <;> omega)) (.int .i64 0)) (w.heap.size) 1 (by first | omega | (simp only [szA, szS, szD, World.heap_drewN] at * <;> omega)) (.int .i64 0)) (w.heap.size) 2 (by first | omega | (simp only [szA, szS, szD, World.heap_drewN] at * <;> omega)) (.int .i64 0))⟩
end Go.Proofs.YthbnbofoefdneaaDoor
