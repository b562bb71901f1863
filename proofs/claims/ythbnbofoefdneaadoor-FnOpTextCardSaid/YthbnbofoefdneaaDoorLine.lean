/- spec.l6Line: the numbers of a line (made by gen_parse.py). -/
import Derived.Test.YthbnbofoefdneaaDoorParseS
namespace Go.Proofs.YthbnbofoefdneaaDoor
open Go.RowKit
set_option linter.unusedSimpArgs false
set_option linter.unusedVariables false
theorem zat {w : World} {b off n c : Nat} {xs : List ByteArray} (h : Row 1 encZ w (.slice (some ⟨b, off, none⟩) n c) xs) {i : Nat} {x : ByteArray} (hx : xs[i]? = some x) : w.cell? ⟨b, off + i, none⟩ = some (.string x) := by
  obtain ⟨b', off', e, _, hc⟩ := ZRow.at h (Nat.lt_of_le_of_lt (Nat.zero_le _) (get_lt hx))
  cases e
  exact hc i x hx
set_option maxHeartbeats 6400000 in
theorem l6Line_calls (text word : ByteArray) (w : World) (ht : text.size ≤ 2000000) :
    Calls Tryd.prog 49 #[.string text, .string word] w fun e w' => ∃ v ns ok, e = .returned (.tuple #[v, .bool ok]) ∧ Own w.heap.size 3 1 encI w' v ns ∧ ns.length ≤ 5 ∧ (∀ n ∈ ns, S17 n) ∧ Below w.heap.size w w' := by
  obtain ⟨ws, hws⟩ : ∃ ws, cutB text 32 = ws := ⟨_, rfl⟩
  have hw1 := (cutB_len text 32).1; have hw2 := (cutB_len text 32).2; have hsz := cutB_sizes text 32
  rw [hws] at hw1 hw2 hsz
  have HWS := Lib.hid hws; have HSZ := Lib.hid hsz; clear hws hsz
  have hw0 : 0 < ws.length := hw1
  go_enter Tryd.func49, Tryd.ntmps49
  go_wp2_with (fail)
  refine (l13Cut_calls text 32 _ ht).mono ?_
  rw [HWS.out]
  rintro e w1 ⟨v, rfl, ho_z, hb⟩
  have B1 := Lib.hid (Below.trans (Below.refl _ _) (hb.mono (by first | omega | (simp only [szA, szS, szD, World.heap_drewN] at * <;> omega))) : Below w.heap.size w w1)
  have Z1 := hb.size
  have N1 : w.heap.size ≤ w1.heap.size := (by first | with_reducible exact Z1 | (simp only [szA, szS, szD] at Z1; omega))
  clear Z1
  have Oz_1 := Lib.hid (Own.mono (base' := w.heap.size) ho_z (by first | omega | (simp only [szA, szS, szD, World.heap_drewN] at * <;> omega))); obtain ⟨az, pz, rfl⟩ := ho_z.form; clear ho_z
  clear hb
  have S1 : w.heap.size ≤ w1.heap.size := (by omega)
  obtain ⟨p0, hp0⟩ := get_ex hw1
  obtain ⟨bq, oq, eq, hlq, hcq⟩ := (ZRow.at (Oz_1.out.row encZ_len)) (Nat.lt_of_le_of_lt (Nat.zero_le _) (get_lt hp0))
  subst eq
  have cq := hcq _ _ hp0
  clear hcq
  simp only [Nat.add_zero] at cq
  have HP0 := Lib.hid hp0; clear hp0
  by_cases he : p0 = word
  · have q1 := str_eq he
    clear he
    by_cases h2 : ws.length < 2
    · have d1 : decide ((ws.length : Int) < 2) = true := decide_eq_true (by omega)
      go_wp2_with (fail)
      refine bodyPost_ret (v := .tuple #[.slice (some ⟨w1.heap.size, 0, none⟩) 0 0, .bool false]) (by simp [results, Tryd.results49, go_sem]) rfl ⟨_, _, _, rfl, (Own.empty (heap_at' (n := w1.heap.size) (by first | omega | (simp only [szA, szS, szD, World.heap_drewN] at * <;> omega))) (by omega) : Own w.heap.size 3 1 encI _ _ _), Nat.zero_le _, (fun n hn => by cases hn), (Below.alloc B1.out (by first | omega | (simp only [szA, szS, szD, World.heap_drewN] at * <;> omega)) _)⟩
    · have d1 : decide ((ws.length : Int) < 2) = false := decide_eq_false (by omega)
      go_wp2_with (fail)
      go_loopw [7, 8] (fun nv iv wr => ∃ (k : Nat) (ns : List Int) (an : Option Addr) (pn : Nat), nv = .slice an ns.length pn ∧ iv = .int .i64 k ∧ k ≤ 6 ∧ NsInv ws k ns ∧ Own w.heap.size 3 1 encI wr (.slice an ns.length pn) ns ∧ Own w.heap.size 9 1 encZ wr (.slice (some ⟨bq, oq, none⟩) ws.length pz) ws ∧ Below w.heap.size w wr) (fun _ iv _ => 6 - (intOf iv).toNat)
      case atStart => exact ⟨1, [], _, _, rfl, rfl, by omega, NsInv.start hw1, (Own.empty (heap_at' (n := w1.heap.size) (by first | omega | (simp only [szA, szS, szD, World.heap_drewN] at * <;> omega))) (by omega) : Own w.heap.size 3 1 encI _ _ _), (Oz_1.out.alloc _), (Below.alloc B1.out (by first | omega | (simp only [szA, szS, szD, World.heap_drewN] at * <;> omega)) _)⟩
      case round =>
        obtain ⟨w20, rfl⟩ : ∃ x : World, x = wr := ⟨_, rfl⟩
        obtain ⟨k, ns, an, pn, rfl, rfl, hk, hi, ho, hz, hb⟩ := hrel
        have B20 := Lib.hid hb; have S20 := hb.size; have On_20 := Lib.hid ho; have Oz_20 := Lib.hid hz
        have HI := Lib.hid hi
        obtain ⟨hk1, hk2, hnl, hi9⟩ := hi; clear hi9; have hn3 : ns.length ≤ 5 := (by omega); have HNL := Lib.hid hnl; clear hnl
        clear hb ho hz
        by_cases hlt4 : k < ws.length ∧ k < 6
        · have hlt : k < ws.length := by omega
          have hk3 : k < 6 := by omega
          have d2 : decide ((k : Int) < (ws.length : Int)) = true := decide_eq_true (by omega)
          have d3 : decide ((k : Int) < 6) = true := decide_eq_true (by omega)
          have i1 : (k : Int) < (ws.length : Int) := by omega
          obtain ⟨p, hp⟩ := get_ex hlt
          have hps := HSZ.out p (get_mem hp)
          have cz := zat (Oz_20.out.row encZ_len) hp
          have HP := Lib.hid hp; clear hp
          rcases hn : numB p with _ | n
          · have HN := Lib.hid hn; clear hn
            go_wp2_with (fail)
            refine (l13Num_calls p _ (by omega)).mono ?_
            rw [HN.out]
            rintro e w21 ⟨rfl, hb⟩
            have B21 := Lib.hid (Below.trans B20.out (hb.mono (by first | omega | (simp only [szA, szS, szD, World.heap_drewN] at * <;> omega))) : Below w.heap.size w w21)
            have Z21 := hb.size
            have N21 : w20.heap.size ≤ w21.heap.size := (by first | with_reducible exact Z21 | (simp only [szA, szS, szD] at Z21; omega))
            clear Z21
            have On_21 := Lib.hid (On_20.out.kept hb)
            have Oz_21 := Lib.hid (Oz_20.out.kept hb)
            clear hb
            have S21 : w.heap.size ≤ w21.heap.size := (by omega)
            go_wp2_with (fail)
            refine bodyPost_ret (v := .tuple #[.slice (some ⟨w21.heap.size, 0, none⟩) 0 0, .bool false]) (by simp [results, Tryd.results49, go_sem]) rfl ⟨_, _, _, rfl, (Own.empty (heap_at' (n := w21.heap.size) (by first | omega | (simp only [szA, szS, szD, World.heap_drewN] at * <;> omega))) (by omega) : Own w.heap.size 3 1 encI _ _ _), Nat.zero_le _, (fun n hn => by cases hn), (Below.alloc B21.out (by first | omega | (simp only [szA, szS, szD, World.heap_drewN] at * <;> omega)) _)⟩
          · have HN := Lib.hid hn; clear hn
            have HI2 := Lib.hid (HI.out.step HP.out HN.out)
            go_wp2_with (fail)
            refine (l13Num_calls p _ (by omega)).mono ?_
            rw [HN.out]
            rintro e w21 ⟨rfl, hb⟩
            have B21 := Lib.hid (Below.trans B20.out (hb.mono (by first | omega | (simp only [szA, szS, szD, World.heap_drewN] at * <;> omega))) : Below w.heap.size w w21)
            have Z21 := hb.size
            have N21 : w20.heap.size ≤ w21.heap.size := (by first | with_reducible exact Z21 | (simp only [szA, szS, szD] at Z21; omega))
            clear Z21
            have On_21 := Lib.hid (On_20.out.kept hb)
            have Oz_21 := Lib.hid (Oz_20.out.kept hb)
            clear hb
            have S21 : w.heap.size ≤ w21.heap.size := (by omega)
            go_wp2_with (at_builtin; refine wpList_snoc _ encI_len encI_one rfl _ _ 31 rfl 3 _ 8 Tryd.underlying31 info_int rfl (by decide) w.heap.size (.slice an ns.length pn) ns rfl On_21.out n _ rfl _ rfl (by first | omega | (simp only [szA, szS, szD, World.heap_drewN] at * <;> omega)) (by decide) (by omega) (by first | omega | (simp only [szA, szS, szD, World.heap_drewN] at * <;> omega)) ?_; intro ad22 cp22 w22 hown hg hat; obtain ⟨nL22, hnL22⟩ : ∃ l, ns ++ [n] = l := ⟨_, rfl⟩; have lnL22 : ns.length + 1 = nL22.length := (by rw [← hnL22, List.length_append, List.length_singleton]); rw [hnL22, lnL22] at hown; rw [lnL22]; have HnL22 := Lib.hid hnL22; clear hnL22; have KnL22 := Lib.hid lnL22; clear lnL22; rw [KnL22.out] at hat; clear hat; have Oz_22 := Lib.hid ((Oz_21.out.alloc _).apart hg (Own.apart_types On_21.out Oz_21.out (by decide))); have On_22 := Lib.hid hown; have B22 := Lib.hid (Below.grown (Below.alloc B21.out (by first | omega | (simp only [szA, szS, szD, World.heap_drewN] at * <;> omega)) _) hg (by first | omega | (simp only [szA, szS, szD, World.heap_drewN]; omega)) (fun g e => Nat.le_trans (by omega) (On_21.out.blk g e))); have N22 : w21.heap.size + 1 ≤ w22.heap.size := (by first | with_reducible exact hg.size | (have := hg.size; simp only [szA, szS, szD] at this; omega)); clear hown hg; have S22 : w.heap.size ≤ w22.heap.size := (by omega))
            go_roundw
            case rel => exact ⟨k + 1, nL22, _, _, rfl, by go_num, by omega, by rw [← HnL22.out]; exact HI2.out, On_22.out, Oz_22.out, B22.out⟩
            case measure => (simp [intOf] <;> omega)
        · have HS := Lib.hid HI.out.small
          have HL : Hid (ns.length ≤ 5) := Lib.hid hn3
          by_cases hlt : k < ws.length
          · have d2 : decide ((k : Int) < (ws.length : Int)) = true := decide_eq_true (by omega)
            have d3 : decide ((k : Int) < 6) = false := decide_eq_false (by omega)
            go_wp2_with (fail)
            refine bodyPost_ret (v := .tuple #[.slice an ns.length pn, .bool ((ns.length : Int) == (ws.length : Int) - 1)]) (by simp [results, Tryd.results49, go_sem]) rfl ⟨_, _, _, rfl, On_20.out, HL.out, HS.out, B20.out⟩
          · have d2 : decide ((k : Int) < (ws.length : Int)) = false := decide_eq_false (by omega)
            go_wp2_with (fail)
            refine bodyPost_ret (v := .tuple #[.slice an ns.length pn, .bool ((ns.length : Int) == (ws.length : Int) - 1)]) (by simp [results, Tryd.results49, go_sem]) rfl ⟨_, _, _, rfl, On_20.out, HL.out, HS.out, B20.out⟩
  · have q1 := str_ne he
    clear he
    go_wp2_with (fail)
    refine bodyPost_ret (v := .tuple #[.slice (some ⟨w1.heap.size, 0, none⟩) 0 0, .bool false]) (by simp [results, Tryd.results49, go_sem]) rfl ⟨_, _, _, rfl, (Own.empty (heap_at' (n := w1.heap.size) (by first | omega | (simp only [szA, szS, szD, World.heap_drewN] at * <;> omega))) (by omega) : Own w.heap.size 3 1 encI _ _ _), Nat.zero_le _, (fun n hn => by cases hn), (Below.alloc B1.out (by first | omega | (simp only [szA, szS, szD, World.heap_drewN] at * <;> omega)) _)⟩
end Go.Proofs.YthbnbofoefdneaaDoor
