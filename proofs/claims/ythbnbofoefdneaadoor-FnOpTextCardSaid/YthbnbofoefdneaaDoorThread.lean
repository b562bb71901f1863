/- spec.l6Thread: the operations of a thread's line (made by gen_parse.py). -/
import Derived.Test.YthbnbofoefdneaaDoorLine
namespace Go.Proofs.YthbnbofoefdneaaDoor
open Go.RowKit
set_option linter.unusedSimpArgs false
set_option linter.unusedVariables false
theorem snoc_all {α : Type} {p : α → Prop} {xs : List α} {x : α} (h : ∀ y ∈ xs, p y) (hx : p x) : ∀ y ∈ xs ++ [x], p y := by
  intro y hy
  rcases List.mem_append.1 hy with hy | hy
  · exact h y hy
  · rw [List.mem_singleton.1 hy]; exact hx
theorem size_pos {s : ByteArray} (h : ¬ s.toList = []) : 0 < s.size := by
  rcases Nat.eq_zero_or_pos s.size with e | e
  · exact absurd (by rw [ByteArray.toList_eq]; exact List.length_eq_zero_iff.1 (by rw [ba_len]; exact e)) h
  · exact e
set_option maxHeartbeats 6400000 in
theorem l6Thread_calls (text : ByteArray) (w : World) (ht : text.size ≤ 2000000) :
    Calls Tryd.prog 50 #[.string text] w fun e w' => ∃ v ns ok, e = .returned (.tuple #[v, .bool ok]) ∧ Own w.heap.size 23 3 encT w' v ns ∧ ns.length ≤ 9 ∧ (∀ x ∈ ns, Kd x.1 ∧ InB x.2.1 ∧ InB x.2.2) ∧ Below w.heap.size w w' := by
  go_enter Tryd.func50, Tryd.ntmps50
  by_cases h1 : text.toList = [116, 104, 114, 101, 97, 100]
  · have q1 : (text.toList == [116, 104, 114, 101, 97, 100]) = true := beq_iff_eq.2 h1
    go_wp2_with (fail)
    refine bodyPost_ret (v := .tuple #[.slice (some ⟨w.heap.size, 0, none⟩) 0 0, .bool true]) (by simp [results, Tryd.results50, go_sem]) rfl ⟨_, _, _, rfl, (Own.empty (heap_at' (n := w.heap.size) (by first | omega | (simp only [szA, szS, szD, World.heap_drewN] at * <;> omega))) (by omega) : Own w.heap.size 23 3 encT _ _ _), Nat.zero_le _, (fun n hn => by cases hn), (Below.alloc (Below.refl _ _) (by first | omega | (simp only [szA, szS, szD, World.heap_drewN] at * <;> omega)) _)⟩
  · have q1 : (text.toList == [116, 104, 114, 101, 97, 100]) = false := beq_eq_false_iff_ne.2 h1
    by_cases h7 : text.size < 7
    · have d1 : decide ((text.size : Int) < 7) = true := decide_eq_true (by omega)
      go_wp2_with (fail)
      refine bodyPost_ret (v := .tuple #[.slice (some ⟨w.heap.size, 0, none⟩) 0 0, .bool false]) (by simp [results, Tryd.results50, go_sem]) rfl ⟨_, _, _, rfl, (Own.empty (heap_at' (n := w.heap.size) (by first | omega | (simp only [szA, szS, szD, World.heap_drewN] at * <;> omega))) (by omega) : Own w.heap.size 23 3 encT _ _ _), Nat.zero_le _, (fun n hn => by cases hn), (Below.alloc (Below.refl _ _) (by first | omega | (simp only [szA, szS, szD, World.heap_drewN] at * <;> omega)) _)⟩
    · have d1 : decide ((text.size : Int) < 7) = false := decide_eq_false (by omega)
      have h7n : 7 ≤ text.size := by omega
      by_cases h2 : (text.extract 0 7).toList = [116, 104, 114, 101, 97, 100, 32]
      · have q2 : ((text.extract 0 7).toList == [116, 104, 114, 101, 97, 100, 32]) = true := beq_iff_eq.2 h2
        have htz : (text.extract 7 text.size).size ≤ 2000000 := Nat.le_trans (extract_size_le _ _ _) ht
        clear h1
        obtain ⟨ws, hws⟩ : ∃ ws, cutB (text.extract 7 text.size) 44 = ws := ⟨_, rfl⟩
        have hw1 := (cutB_len (text.extract 7 text.size) 44).1; have hw2 := (cutB_len (text.extract 7 text.size) 44).2; have hsz := cutB_sizes (text.extract 7 text.size) 44
        rw [hws] at hw1 hw2 hsz
        have HWS := Lib.hid hws; have HSZ := Lib.hid hsz; clear hws hsz
        have hw0 : 0 < ws.length := hw1
        go_wp2_with (fail)
        refine (l13Cut_calls (text.extract 7 text.size) 44 _ htz).mono ?_
        rw [HWS.out]
        rintro e w1 ⟨v, rfl, ho_z, hb⟩
        have B1 := Lib.hid (Below.trans (Below.alloc (Below.refl _ _) (by first | omega | (simp only [szA, szS, szD, World.heap_drewN] at * <;> omega)) _) (hb.mono (by first | omega | (simp only [szA, szS, szD, World.heap_drewN] at * <;> omega))) : Below w.heap.size w w1)
        have Z1 := hb.size
        have N1 : w.heap.size + 1 ≤ w1.heap.size := (by first | with_reducible exact Z1 | (simp only [szA, szS, szD] at Z1; omega))
        clear Z1
        have Xe_1 : Hid (w1.heap[w.heap.size]? = some (.cells #[] 23 (0, 0))) := below_at hb (heap_at' (n := w.heap.size) (by first | omega | (simp only [szA, szS, szD, World.heap_drewN] at * <;> omega)))
        have Oz_1 := Lib.hid (Own.mono (base' := w.heap.size) ho_z (by first | omega | (simp only [szA, szS, szD, World.heap_drewN] at * <;> omega))); obtain ⟨az, pz, rfl⟩ := ho_z.form; clear ho_z
        clear hb
        have le1 := heap_lt Xe_1.out
        have S1 : w.heap.size ≤ w1.heap.size := (by omega)
        go_wp2_with (fail)
        go_loopw [4, 6] (fun nv iv wr => ∃ (k : Nat) (ns : List OpT) (an : Option Addr) (pn : Nat), nv = .slice an ns.length pn ∧ iv = .int .i64 k ∧ k ≤ 9 ∧ ns.length = k ∧ (∀ x ∈ ns, Kd x.1 ∧ InB x.2.1 ∧ InB x.2.2) ∧ Own w.heap.size 23 3 encT wr (.slice an ns.length pn) ns ∧ Own w.heap.size 9 1 encZ wr (.slice az ws.length pz) ws ∧ Below w.heap.size w wr) (fun _ iv _ => 9 - (intOf iv).toNat)
        case atStart => exact ⟨0, [], _, _, rfl, rfl, by omega, rfl, (fun n hn => by cases hn), (Own.empty Xe_1.out (by omega) : Own w.heap.size 23 3 encT _ _ _), Oz_1.out, B1.out⟩
        case round =>
          obtain ⟨w20, rfl⟩ : ∃ x : World, x = wr := ⟨_, rfl⟩
          obtain ⟨k, ns, an, pn, rfl, rfl, hk, hnl, hi, ho, hz, hb⟩ := hrel
          have B20 := Lib.hid hb; have S20 := hb.size; have On_20 := Lib.hid ho; have Oz_20 := Lib.hid hz
          have HI := Lib.hid hi; have hn3 : ns.length ≤ 9 := (by omega); have HNL := Lib.hid hnl; clear hnl
          clear hb ho hz hi
          by_cases hlt4 : k < ws.length ∧ k ≤ 8
          · have hlt : k < ws.length := by omega
            have hk3 : k ≤ 8 := by omega
            have d2 : decide ((k : Int) < (ws.length : Int)) = true := decide_eq_true (by omega)
            have d3 : decide ((k : Int) ≤ 8) = true := decide_eq_true (by omega)
            have i1 : (k : Int) < (ws.length : Int) := by omega
            obtain ⟨p, hp⟩ := get_ex hlt
            have hps := HSZ.out p (get_mem hp)
            obtain ⟨bq, oq, eq, hlq, hcq⟩ := (ZRow.at (Oz_20.out.row encZ_len)) (Nat.lt_of_le_of_lt (Nat.zero_le _) (get_lt hp))
            subst eq
            have cq := hcq _ _ hp
            clear hcq
            clear hp
            by_cases h0 : k = 0
            · have d4 : decide (0 < (k : Int)) = false := decide_eq_false (by omega)
              have d4n : decide (0 < k) = false := decide_eq_false (by omega)
              have d4m : ¬ 0 < k := by omega
              have hpz : p.size ≤ 2000000 := by omega
              clear h0
              go_wp2_with (fail)
              refine (sParseOp_calls p _ hpz).mono ?_
              rintro e w21 ⟨r, rfl, hr, hb⟩
              have B21 := Lib.hid (Below.trans B20.out (hb.mono (by first | omega | (simp only [szA, szS, szD, World.heap_drewN] at * <;> omega))) : Below w.heap.size w w21)
              have Z21 := hb.size
              have N21 : w20.heap.size ≤ w21.heap.size := (by first | with_reducible exact Z21 | (simp only [szA, szS, szD] at Z21; omega))
              clear Z21
              have On_21 := Lib.hid (On_20.out.kept hb)
              have Oz_21 := Lib.hid (Oz_20.out.kept hb)
              clear hb
              have S21 : w.heap.size ≤ w21.heap.size := (by omega)
              have HR := Lib.hid hr; clear hr
              rcases r with _ | ⟨x0, x1, x2⟩
              · go_wp2_with (fail)
                refine bodyPost_ret (v := .tuple #[.slice (some ⟨w21.heap.size + 1, 0, none⟩) 0 0, .bool false]) (by simp [results, Tryd.results50, go_sem]) rfl ⟨_, _, _, rfl, (Own.empty (heap_at' (n := w21.heap.size + 1) (by first | omega | (simp only [szA, szS, szD, World.heap_drewN] at * <;> omega))) (by omega) : Own w.heap.size 23 3 encT _ _ _), Nat.zero_le _, (fun n hn => by cases hn), (Below.alloc (Below.alloc B21.out (by first | omega | (simp only [szA, szS, szD, World.heap_drewN] at * <;> omega)) _) (by first | omega | (simp only [szA, szS, szD, World.heap_drewN] at * <;> omega)) _)⟩
              · have HX : Hid (Kd x0 ∧ InB x1 ∧ InB x2) := Lib.hid ⟨HR.out.1, HR.out.inB⟩
                have hn8 : ns.length ≤ 8 := by have := HNL.out; omega
                go_wp2_with (at_builtin; refine wpList_snoc _ encT_len one_trip rfl _ _ 74 rfl 23 _ 24 Tryd.underlying74 info_Op rfl (by decide) w.heap.size (.slice an ns.length pn) ns rfl (On_21.out.alloc _) (x0, x1, x2) _ rfl _ rfl (by first | omega | (simp only [szA, szS, szD, World.heap_drewN] at * <;> omega)) (by decide) (by omega) (by first | omega | (simp only [szA, szS, szD, World.heap_drewN] at * <;> omega)) ?_; intro ad22 cp22 w22 hown hg hat; obtain ⟨nL22, hnL22⟩ : ∃ l, ns ++ [(x0, x1, x2)] = l := ⟨_, rfl⟩; have lnL22 : ns.length + 1 = nL22.length := (by rw [← hnL22, List.length_append, List.length_singleton]); rw [hnL22, lnL22] at hown; rw [lnL22]; have HnL22 := Lib.hid hnL22; clear hnL22; have KnL22 := Lib.hid lnL22; clear lnL22; rw [KnL22.out] at hat; clear hat; have Xo_22 : Hid (w22.heap[w21.heap.size]? = some (.cells #[.int .i64 x0, .int .i64 x1, .int .i64 x2] 23 (0, 0))) := grown_at2 hg (heap_up (heap_at' (n := w21.heap.size) (by first | omega | (simp only [szA, szS, szD, World.heap_drewN] at * <;> omega)))) (On_21.out.not_new (by omega)); have Oz_22 := Lib.hid (((Oz_21.out.alloc _).alloc _).apart hg (Own.apart_types On_21.out Oz_21.out (by decide))); have On_22 := Lib.hid hown; have B22 := Lib.hid (Below.grown (Below.alloc (Below.alloc B21.out (by first | omega | (simp only [szA, szS, szD, World.heap_drewN] at * <;> omega)) _) (by first | omega | (simp only [szA, szS, szD, World.heap_drewN] at * <;> omega)) _) hg (by first | omega | (simp only [szA, szS, szD, World.heap_drewN]; omega)) (fun g e => Nat.le_trans (by omega) (On_21.out.blk g e))); have N22 : w21.heap.size + 2 ≤ w22.heap.size := (by first | with_reducible exact hg.size | (have := hg.size; simp only [szA, szS, szD] at this; omega)); clear hown hg; obtain ⟨co22_0, co22_1, co22_2, fo22_0, fo22_1, fo22_2⟩ := box3 Xo_22.out; have lo22 := heap_lt Xo_22.out; have S22 : w.heap.size ≤ w22.heap.size := (by omega))
                go_roundw
                case rel => exact ⟨k + 1, nL22, _, _, rfl, by go_num, by omega, by have := KnL22.out; have := HNL.out; omega, (by rw [← HnL22.out]; exact snoc_all HI.out HX.out), On_22.out, Oz_22.out, B22.out⟩
                case measure => (simp [intOf] <;> omega)
            · have d4 : decide (0 < (k : Int)) = true := decide_eq_true (by omega)
              have d4n : decide (0 < k) = true := decide_eq_true (by omega)
              by_cases h5 : p.toList = []
              · have q5 : (p.toList == []) = true := beq_iff_eq.2 h5
                have q6 : p.toList.isEmpty = true := List.isEmpty_iff.2 h5
                go_wp2_with (fail)
                refine bodyPost_ret (v := .tuple #[.slice (some ⟨w20.heap.size, 0, none⟩) 0 0, .bool false]) (by simp [results, Tryd.results50, go_sem]) rfl ⟨_, _, _, rfl, (Own.empty (heap_at' (n := w20.heap.size) (by first | omega | (simp only [szA, szS, szD, World.heap_drewN] at * <;> omega))) (by omega) : Own w.heap.size 23 3 encT _ _ _), Nat.zero_le _, (fun n hn => by cases hn), (Below.alloc B20.out (by first | omega | (simp only [szA, szS, szD, World.heap_drewN] at * <;> omega)) _)⟩
              · have q5 : (p.toList == []) = false := beq_eq_false_iff_ne.2 h5
                have h5p := size_pos h5
                have q6 := nonempty h5p
                clear h5
                by_cases h6 : p[0].toNat = 32
                · have q7 : ((p[0].toNat : Int) == 32) = true := beq_iff_eq.2 (by omega)
                  clear h6
                  have hpz : (p.extract 1 p.size).size ≤ 2000000 := Nat.le_trans (extract_size_le _ _ _) (by omega)
                  have h1p : 1 ≤ p.size := h5p
                  go_wp2_with (fail)
                  refine (sParseOp_calls (p.extract 1 p.size) _ hpz).mono ?_
                  rintro e w21 ⟨r, rfl, hr, hb⟩
                  have B21 := Lib.hid (Below.trans B20.out (hb.mono (by first | omega | (simp only [szA, szS, szD, World.heap_drewN] at * <;> omega))) : Below w.heap.size w w21)
                  have Z21 := hb.size
                  have N21 : w20.heap.size ≤ w21.heap.size := (by first | with_reducible exact Z21 | (simp only [szA, szS, szD] at Z21; omega))
                  clear Z21
                  have On_21 := Lib.hid (On_20.out.kept hb)
                  have Oz_21 := Lib.hid (Oz_20.out.kept hb)
                  clear hb
                  have S21 : w.heap.size ≤ w21.heap.size := (by omega)
                  have HR := Lib.hid hr; clear hr
                  rcases r with _ | ⟨x0, x1, x2⟩
                  · go_wp2_with (fail)
                    refine bodyPost_ret (v := .tuple #[.slice (some ⟨w21.heap.size + 1, 0, none⟩) 0 0, .bool false]) (by simp [results, Tryd.results50, go_sem]) rfl ⟨_, _, _, rfl, (Own.empty (heap_at' (n := w21.heap.size + 1) (by first | omega | (simp only [szA, szS, szD, World.heap_drewN] at * <;> omega))) (by omega) : Own w.heap.size 23 3 encT _ _ _), Nat.zero_le _, (fun n hn => by cases hn), (Below.alloc (Below.alloc B21.out (by first | omega | (simp only [szA, szS, szD, World.heap_drewN] at * <;> omega)) _) (by first | omega | (simp only [szA, szS, szD, World.heap_drewN] at * <;> omega)) _)⟩
                  · have HX : Hid (Kd x0 ∧ InB x1 ∧ InB x2) := Lib.hid ⟨HR.out.1, HR.out.inB⟩
                    have hn8 : ns.length ≤ 8 := by have := HNL.out; omega
                    go_wp2_with (at_builtin; refine wpList_snoc _ encT_len one_trip rfl _ _ 74 rfl 23 _ 24 Tryd.underlying74 info_Op rfl (by decide) w.heap.size (.slice an ns.length pn) ns rfl (On_21.out.alloc _) (x0, x1, x2) _ rfl _ rfl (by first | omega | (simp only [szA, szS, szD, World.heap_drewN] at * <;> omega)) (by decide) (by omega) (by first | omega | (simp only [szA, szS, szD, World.heap_drewN] at * <;> omega)) ?_; intro ad22 cp22 w22 hown hg hat; obtain ⟨nL22, hnL22⟩ : ∃ l, ns ++ [(x0, x1, x2)] = l := ⟨_, rfl⟩; have lnL22 : ns.length + 1 = nL22.length := (by rw [← hnL22, List.length_append, List.length_singleton]); rw [hnL22, lnL22] at hown; rw [lnL22]; have HnL22 := Lib.hid hnL22; clear hnL22; have KnL22 := Lib.hid lnL22; clear lnL22; rw [KnL22.out] at hat; clear hat; have Xo_22 : Hid (w22.heap[w21.heap.size]? = some (.cells #[.int .i64 x0, .int .i64 x1, .int .i64 x2] 23 (0, 0))) := grown_at2 hg (heap_up (heap_at' (n := w21.heap.size) (by first | omega | (simp only [szA, szS, szD, World.heap_drewN] at * <;> omega)))) (On_21.out.not_new (by omega)); have Oz_22 := Lib.hid (((Oz_21.out.alloc _).alloc _).apart hg (Own.apart_types On_21.out Oz_21.out (by decide))); have On_22 := Lib.hid hown; have B22 := Lib.hid (Below.grown (Below.alloc (Below.alloc B21.out (by first | omega | (simp only [szA, szS, szD, World.heap_drewN] at * <;> omega)) _) (by first | omega | (simp only [szA, szS, szD, World.heap_drewN] at * <;> omega)) _) hg (by first | omega | (simp only [szA, szS, szD, World.heap_drewN]; omega)) (fun g e => Nat.le_trans (by omega) (On_21.out.blk g e))); have N22 : w21.heap.size + 2 ≤ w22.heap.size := (by first | with_reducible exact hg.size | (have := hg.size; simp only [szA, szS, szD] at this; omega)); clear hown hg; obtain ⟨co22_0, co22_1, co22_2, fo22_0, fo22_1, fo22_2⟩ := box3 Xo_22.out; have lo22 := heap_lt Xo_22.out; have S22 : w.heap.size ≤ w22.heap.size := (by omega))
                    go_roundw
                    case rel => exact ⟨k + 1, nL22, _, _, rfl, by go_num, by omega, by have := KnL22.out; have := HNL.out; omega, (by rw [← HnL22.out]; exact snoc_all HI.out HX.out), On_22.out, Oz_22.out, B22.out⟩
                    case measure => (simp [intOf] <;> omega)
                · have q7 : ((p[0].toNat : Int) == 32) = false := beq_eq_false_iff_ne.2 (by omega)
                  have q8 : ¬ (p[0].toNat : Int) = 32 := by omega
                  clear h6
                  go_wp2_with (fail)
                  refine bodyPost_ret (v := .tuple #[.slice (some ⟨w20.heap.size, 0, none⟩) 0 0, .bool false]) (by simp [results, Tryd.results50, go_sem]) rfl ⟨_, _, _, rfl, (Own.empty (heap_at' (n := w20.heap.size) (by first | omega | (simp only [szA, szS, szD, World.heap_drewN] at * <;> omega))) (by omega) : Own w.heap.size 23 3 encT _ _ _), Nat.zero_le _, (fun n hn => by cases hn), (Below.alloc B20.out (by first | omega | (simp only [szA, szS, szD, World.heap_drewN] at * <;> omega)) _)⟩
          · have HL : Hid (ns.length ≤ 9) := Lib.hid hn3
            by_cases hlt : k < ws.length
            · have d2 : decide ((k : Int) < (ws.length : Int)) = true := decide_eq_true (by omega)
              have d3 : decide ((k : Int) ≤ 8) = false := decide_eq_false (by omega)
              go_wp2_with (fail)
              refine bodyPost_ret (v := .tuple #[.slice an ns.length pn, .bool (decide ((ws.length : Int) ≤ 8))]) (by simp [results, Tryd.results50, go_sem]) rfl ⟨_, _, _, rfl, On_20.out, HL.out, HI.out, B20.out⟩
            · have d2 : decide ((k : Int) < (ws.length : Int)) = false := decide_eq_false (by omega)
              go_wp2_with (fail)
              refine bodyPost_ret (v := .tuple #[.slice an ns.length pn, .bool (decide ((ws.length : Int) ≤ 8))]) (by simp [results, Tryd.results50, go_sem]) rfl ⟨_, _, _, rfl, On_20.out, HL.out, HI.out, B20.out⟩
      · have q2 : ((text.extract 0 7).toList == [116, 104, 114, 101, 97, 100, 32]) = false := beq_eq_false_iff_ne.2 h2
        go_wp2_with (fail)
        refine bodyPost_ret (v := .tuple #[.slice (some ⟨w.heap.size, 0, none⟩) 0 0, .bool false]) (by simp [results, Tryd.results50, go_sem]) rfl ⟨_, _, _, rfl, (Own.empty (heap_at' (n := w.heap.size) (by first | omega | (simp only [szA, szS, szD, World.heap_drewN] at * <;> omega))) (by omega) : Own w.heap.size 23 3 encT _ _ _), Nat.zero_le _, (fun n hn => by cases hn), (Below.alloc (Below.refl _ _) (by first | omega | (simp only [szA, szS, szD, World.heap_drewN] at * <;> omega)) _)⟩
end Go.Proofs.YthbnbofoefdneaaDoor
