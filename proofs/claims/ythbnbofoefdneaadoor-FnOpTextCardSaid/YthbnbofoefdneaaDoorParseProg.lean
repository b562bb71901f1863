/- spec.ParseProg: a valid program, or the empty one (made by gen_parseprog.py). -/
import Derived.Test.YthbnbofoefdneaaDoorThread
import Derived.Test.YthbnbofoefdneaaDoorFmtProg
import Derived.Test.YthbnbofoefdneaaDoorDrProg
namespace Go.Proofs.YthbnbofoefdneaaDoor
open Go.RowKit
set_option linter.unusedSimpArgs false
set_option linter.unusedVariables false
set_option maxRecDepth 100000 in
set_option maxHeartbeats 16000000 in
theorem sParseProg_calls (text : ByteArray) (w : World) (ht : text.size ≤ 2000000) :
    Calls Tryd.prog 38 #[.string text] w fun e w' => ∃ v c ok, e = .returned (.tuple #[v, .bool ok]) ∧ ProgOwn w.heap.size w'.heap.size w' v c ∧ (c = ProgD.zero ∨ ProgOk c) ∧ Below w.heap.size w w' := by
  obtain ⟨ws, hws⟩ : ∃ ws, cutB text 10 = ws := ⟨_, rfl⟩
  have hw1 := (cutB_len text 10).1; have hw2 := (cutB_len text 10).2; have hsz := cutB_sizes text 10
  rw [hws] at hw1 hw2 hsz
  have HWS := Lib.hid hws; have HSZ := Lib.hid hsz; clear hws hsz
  have hw0 : 0 < ws.length := hw1
  go_enter Tryd.func38, Tryd.ntmps38
  go_wp2_with (fail)
  refine (l13Cut_calls text 10 _ ht).mono ?_
  rw [HWS.out]
  rintro e w1 ⟨v, rfl, ho_z, hb⟩
  have B1 := Lib.hid (Below.trans (Below.alloc (Below.refl _ _) (by first | omega | (simp only [szA, szS, szD, World.heap_drewN] at * <;> omega)) _) (hb.mono (by first | omega | (simp only [szA, szS, szD, World.heap_drewN] at * <;> omega))) : Below w.heap.size w w1)
  have Z1 := hb.size
  have N1 : w.heap.size + 1 ≤ w1.heap.size := (by first | with_reducible exact Z1 | (simp only [szA, szS, szD] at Z1; omega))
  clear Z1
  have Xres_1 : Hid (w1.heap[w.heap.size]? = some (.cells #[.slice none 0 0, .slice none 0 0, .slice none 0 0, .slice none 0 0, .slice none 0 0] 34 (0, 0))) := below_at hb (heap_at' (n := w.heap.size) (by first | omega | (simp only [szA, szS, szD, World.heap_drewN] at * <;> omega)))
  have Oz_1 := Lib.hid (Own.mono (base' := w.heap.size) ho_z (by first | omega | (simp only [szA, szS, szD, World.heap_drewN] at * <;> omega))); obtain ⟨az, pz, rfl⟩ := ho_z.form; clear ho_z
  clear hb
  obtain ⟨cres1_0, cres1_1, cres1_2, cres1_3, cres1_4, fres1_0, fres1_1, fres1_2, fres1_3, fres1_4⟩ := box5 Xres_1.out; have lres1 := heap_lt Xres_1.out
  have S1 : w.heap.size ≤ w1.heap.size := (by omega)
  go_wp2_with (fail)
  go_loopw [6] (fun iv wr => ∃ (k : Nat) (c : ProgD) (aq0 : Option Addr) (pq0 : Nat) (aq1 : Option Addr) (pq1 : Nat) (aq2 : Option Addr) (pq2 : Nat) (aq3 : Option Addr) (pq3 : Nat) (aq4 : Option Addr) (pq4 : Nat), iv = .int .i64 k ∧ k ≤ 9 ∧ c.threads.length ≤ k ∧ Own w.heap.size 3 1 encI wr (.slice aq0 c.sems.length pq0) c.sems ∧ Own w.heap.size 3 1 encI wr (.slice aq1 c.groups.length pq1) c.groups ∧ Own w.heap.size 3 1 encI wr (.slice aq2 c.barriers.length pq2) c.barriers ∧ Own w.heap.size 3 1 encI wr (.slice aq3 c.rooms.length pq3) c.rooms ∧ TTOwn w.heap.size wr (.slice aq4 c.threads.length pq4) c.threads ∧ Own w.heap.size 9 1 encZ wr (.slice az ws.length pz) ws ∧ wr.heap[w.heap.size]? = some (.cells #[.slice none 0 0, .slice none 0 0, .slice none 0 0, .slice none 0 0, .slice none 0 0] 34 (0, 0)) ∧ wr.heap[w1.heap.size]? = some (.cells #[.slice aq0 c.sems.length pq0, .slice aq1 c.groups.length pq1, .slice aq2 c.barriers.length pq2, .slice aq3 c.rooms.length pq3, .slice aq4 c.threads.length pq4] 34 (0, 0)) ∧ w1.heap.size < wr.heap.size ∧ Below w.heap.size w wr) (fun iv _ => 9 - (intOf iv).toNat)
  case atStart => exact ⟨0, ProgD.zero, none, 0, none, 0, none, 0, none, 0, none, 0, rfl, by omega, Nat.le_refl _, (Own.nil _ _ _ _ _), (Own.nil _ _ _ _ _), (Own.nil _ _ _ _ _), (Own.nil _ _ _ _ _), TTOwn.empty (Own.nil _ _ _ _ _), (Oz_1.out.alloc _), (heap_up Xres_1.out), (heap_at' (n := w1.heap.size) (by first | omega | (simp only [szA, szS, szD, World.heap_drewN] at * <;> omega))), (by first | omega | (simp only [szA, szS, szD, World.heap_drewN] at * <;> omega)), (Below.alloc B1.out (by first | omega | (simp only [szA, szS, szD, World.heap_drewN] at * <;> omega)) _)⟩
  case round =>
    obtain ⟨w20, rfl⟩ : ∃ x : World, x = wr := ⟨_, rfl⟩
    obtain ⟨k, c, aq0, pq0, aq1, pq1, aq2, pq2, aq3, pq3, aq4, pq4, rfl, hk, hct, ho0, ho1, ho2, ho3, ho4, hz, hx, hy, hs, hb⟩ := hrel
    have B20 := Lib.hid hb; have S20 := hb.size; have Oz_20 := Lib.hid hz; have Xres_20 := Lib.hid hx; have Xp_20 := Lib.hid hy; have N20 := hs
    have Oq0_20 := Lib.hid ho0; clear ho0
    have Oq1_20 := Lib.hid ho1; clear ho1
    have Oq2_20 := Lib.hid ho2; clear ho2
    have Oq3_20 := Lib.hid ho3; clear ho3
    have Oq4_20 := Lib.hid ho4; clear ho4
    clear hb hz hx hy hs
    obtain ⟨cres20_0, cres20_1, cres20_2, cres20_3, cres20_4, fres20_0, fres20_1, fres20_2, fres20_3, fres20_4⟩ := box5 Xres_20.out; have lres20 := heap_lt Xres_20.out
    obtain ⟨cp20_0, cp20_1, cp20_2, cp20_3, cp20_4, fp20_0, fp20_1, fp20_2, fp20_3, fp20_4⟩ := box5 Xp_20.out; have lp20 := heap_lt Xp_20.out
    have nrp : w.heap.size ≠ w1.heap.size := by omega
    have npr := nrp.symm
    by_cases hlt4 : k + 1 < ws.length ∧ k < 9
    · have hlt : k < ws.length := by omega
      have hk3 : k < 9 := by omega
      have d2 : decide ((k : Int) + 1 < (ws.length : Int)) = true := decide_eq_true (by omega)
      have d3 : decide ((k : Int) < 9) = true := decide_eq_true (by omega)
      have i1 : (k : Int) < (ws.length : Int) := by omega
      obtain ⟨p, hp⟩ := get_ex hlt
      have hps := HSZ.out p (get_mem hp)
      obtain ⟨bq, oq, eq, hlq, hcq⟩ := (ZRow.at (Oz_20.out.row encZ_len)) (Nat.lt_of_le_of_lt (Nat.zero_le _) (get_lt hp))
      subst eq
      have cq := hcq _ _ hp
      clear hcq
      have HPK := Lib.hid hp; clear hp
      have hp2 : p.size ≤ 2000000 := by omega
      go_wp2_with (fail)
      refine (l6Line_calls p ⟨#[115, 101, 109, 115]⟩ _ hp2).mono ?_
      rintro e w21 ⟨v, ns0, b0, rfl, ho_l0, hl0, hs0, hb⟩
      have B21 := Lib.hid (Below.trans B20.out (hb.mono (by first | omega | (simp only [szA, szS, szD, World.heap_drewN] at * <;> omega))) : Below w.heap.size w w21)
      have Z21 := hb.size
      have N21 : w20.heap.size ≤ w21.heap.size := (by first | with_reducible exact Z21 | (simp only [szA, szS, szD] at Z21; omega))
      clear Z21
      have Xres_21 := Lib.hid (below_at hb Xres_20.out)
      have Xp_21 := Lib.hid (below_at hb Xp_20.out)
      have Oq0_21 := Lib.hid (Oq0_20.out.kept hb)
      have Oq1_21 := Lib.hid (Oq1_20.out.kept hb)
      have Oq2_21 := Lib.hid (Oq2_20.out.kept hb)
      have Oq3_21 := Lib.hid (Oq3_20.out.kept hb)
      have Oq4_21 := Lib.hid (Oq4_20.out.kept hb)
      have Oz_21 := Lib.hid (Oz_20.out.kept hb)
      have Ol0_21 := Lib.hid (Own.mono (base' := w.heap.size) ho_l0 (by first | omega | (simp only [szA, szS, szD, World.heap_drewN] at * <;> omega))); obtain ⟨al0, pl0, rfl⟩ := ho_l0.form; clear ho_l0
      clear hb
      obtain ⟨cres21_0, cres21_1, cres21_2, cres21_3, cres21_4, fres21_0, fres21_1, fres21_2, fres21_3, fres21_4⟩ := box5 Xres_21.out; have lres21 := heap_lt Xres_21.out
      obtain ⟨cp21_0, cp21_1, cp21_2, cp21_3, cp21_4, fp21_0, fp21_1, fp21_2, fp21_3, fp21_4⟩ := box5 Xp_21.out; have lp21 := heap_lt Xp_21.out
      have S21 : w.heap.size ≤ w21.heap.size := (by omega)
      clear hl0 hs0
      have cq := zat (Oz_21.out.row encZ_len) HPK.out
      go_wp2_with (fail)
      refine (l6Line_calls p ⟨#[103, 114, 111, 117, 112, 115]⟩ _ hp2).mono ?_
      rintro e w22 ⟨v, ns1, b1, rfl, ho_l1, hl1, hs1, hb⟩
      have B22 := Lib.hid (Below.trans B21.out (hb.mono (by first | omega | (simp only [szA, szS, szD, World.heap_drewN] at * <;> omega))) : Below w.heap.size w w22)
      have Z22 := hb.size
      have N22 : w21.heap.size ≤ w22.heap.size := (by first | with_reducible exact Z22 | (simp only [szA, szS, szD] at Z22; omega))
      clear Z22
      have Xres_22 := Lib.hid (below_at hb Xres_21.out)
      have Xp_22 := Lib.hid (below_at hb Xp_21.out)
      have Oq0_22 := Lib.hid (Oq0_21.out.kept hb)
      have Oq1_22 := Lib.hid (Oq1_21.out.kept hb)
      have Oq2_22 := Lib.hid (Oq2_21.out.kept hb)
      have Oq3_22 := Lib.hid (Oq3_21.out.kept hb)
      have Oq4_22 := Lib.hid (Oq4_21.out.kept hb)
      have Oz_22 := Lib.hid (Oz_21.out.kept hb)
      have Ol0_22 := Lib.hid (Ol0_21.out.kept hb)
      have Ol1_22 := Lib.hid (Own.mono (base' := w.heap.size) ho_l1 (by first | omega | (simp only [szA, szS, szD, World.heap_drewN] at * <;> omega))); obtain ⟨al1, pl1, rfl⟩ := ho_l1.form; clear ho_l1
      clear hb
      obtain ⟨cres22_0, cres22_1, cres22_2, cres22_3, cres22_4, fres22_0, fres22_1, fres22_2, fres22_3, fres22_4⟩ := box5 Xres_22.out; have lres22 := heap_lt Xres_22.out
      obtain ⟨cp22_0, cp22_1, cp22_2, cp22_3, cp22_4, fp22_0, fp22_1, fp22_2, fp22_3, fp22_4⟩ := box5 Xp_22.out; have lp22 := heap_lt Xp_22.out
      have S22 : w.heap.size ≤ w22.heap.size := (by omega)
      clear cres21_0 cres21_1 cres21_2 cres21_3 cres21_4 fres21_0 fres21_1 fres21_2 fres21_3 fres21_4 cp21_0 cp21_1 cp21_2 cp21_3 cp21_4 fp21_0 fp21_1 fp21_2 fp21_3 fp21_4
      clear hl1 hs1
      have cq := zat (Oz_22.out.row encZ_len) HPK.out
      go_wp2_with (fail)
      refine (l6Line_calls p ⟨#[98, 97, 114, 114, 105, 101, 114, 115]⟩ _ hp2).mono ?_
      rintro e w23 ⟨v, ns2, b2, rfl, ho_l2, hl2, hs2, hb⟩
      have B23 := Lib.hid (Below.trans B22.out (hb.mono (by first | omega | (simp only [szA, szS, szD, World.heap_drewN] at * <;> omega))) : Below w.heap.size w w23)
      have Z23 := hb.size
      have N23 : w22.heap.size ≤ w23.heap.size := (by first | with_reducible exact Z23 | (simp only [szA, szS, szD] at Z23; omega))
      clear Z23
      have Xres_23 := Lib.hid (below_at hb Xres_22.out)
      have Xp_23 := Lib.hid (below_at hb Xp_22.out)
      have Oq0_23 := Lib.hid (Oq0_22.out.kept hb)
      have Oq1_23 := Lib.hid (Oq1_22.out.kept hb)
      have Oq2_23 := Lib.hid (Oq2_22.out.kept hb)
      have Oq3_23 := Lib.hid (Oq3_22.out.kept hb)
      have Oq4_23 := Lib.hid (Oq4_22.out.kept hb)
      have Oz_23 := Lib.hid (Oz_22.out.kept hb)
      have Ol0_23 := Lib.hid (Ol0_22.out.kept hb)
      have Ol1_23 := Lib.hid (Ol1_22.out.kept hb)
      have Ol2_23 := Lib.hid (Own.mono (base' := w.heap.size) ho_l2 (by first | omega | (simp only [szA, szS, szD, World.heap_drewN] at * <;> omega))); obtain ⟨al2, pl2, rfl⟩ := ho_l2.form; clear ho_l2
      clear hb
      obtain ⟨cres23_0, cres23_1, cres23_2, cres23_3, cres23_4, fres23_0, fres23_1, fres23_2, fres23_3, fres23_4⟩ := box5 Xres_23.out; have lres23 := heap_lt Xres_23.out
      obtain ⟨cp23_0, cp23_1, cp23_2, cp23_3, cp23_4, fp23_0, fp23_1, fp23_2, fp23_3, fp23_4⟩ := box5 Xp_23.out; have lp23 := heap_lt Xp_23.out
      have S23 : w.heap.size ≤ w23.heap.size := (by omega)
      clear cres22_0 cres22_1 cres22_2 cres22_3 cres22_4 fres22_0 fres22_1 fres22_2 fres22_3 fres22_4 cp22_0 cp22_1 cp22_2 cp22_3 cp22_4 fp22_0 fp22_1 fp22_2 fp22_3 fp22_4
      clear hl2 hs2
      have cq := zat (Oz_23.out.row encZ_len) HPK.out
      go_wp2_with (fail)
      refine (l6Line_calls p ⟨#[114, 111, 111, 109, 115]⟩ _ hp2).mono ?_
      rintro e w24 ⟨v, ns3, b3, rfl, ho_l3, hl3, hs3, hb⟩
      have B24 := Lib.hid (Below.trans B23.out (hb.mono (by first | omega | (simp only [szA, szS, szD, World.heap_drewN] at * <;> omega))) : Below w.heap.size w w24)
      have Z24 := hb.size
      have N24 : w23.heap.size ≤ w24.heap.size := (by first | with_reducible exact Z24 | (simp only [szA, szS, szD] at Z24; omega))
      clear Z24
      have Xres_24 := Lib.hid (below_at hb Xres_23.out)
      have Xp_24 := Lib.hid (below_at hb Xp_23.out)
      have Oq0_24 := Lib.hid (Oq0_23.out.kept hb)
      have Oq1_24 := Lib.hid (Oq1_23.out.kept hb)
      have Oq2_24 := Lib.hid (Oq2_23.out.kept hb)
      have Oq3_24 := Lib.hid (Oq3_23.out.kept hb)
      have Oq4_24 := Lib.hid (Oq4_23.out.kept hb)
      have Oz_24 := Lib.hid (Oz_23.out.kept hb)
      have Ol0_24 := Lib.hid (Ol0_23.out.kept hb)
      have Ol1_24 := Lib.hid (Ol1_23.out.kept hb)
      have Ol2_24 := Lib.hid (Ol2_23.out.kept hb)
      have Ol3_24 := Lib.hid (Own.mono (base' := w.heap.size) ho_l3 (by first | omega | (simp only [szA, szS, szD, World.heap_drewN] at * <;> omega))); obtain ⟨al3, pl3, rfl⟩ := ho_l3.form; clear ho_l3
      clear hb
      obtain ⟨cres24_0, cres24_1, cres24_2, cres24_3, cres24_4, fres24_0, fres24_1, fres24_2, fres24_3, fres24_4⟩ := box5 Xres_24.out; have lres24 := heap_lt Xres_24.out
      obtain ⟨cp24_0, cp24_1, cp24_2, cp24_3, cp24_4, fp24_0, fp24_1, fp24_2, fp24_3, fp24_4⟩ := box5 Xp_24.out; have lp24 := heap_lt Xp_24.out
      have S24 : w.heap.size ≤ w24.heap.size := (by omega)
      clear cres23_0 cres23_1 cres23_2 cres23_3 cres23_4 fres23_0 fres23_1 fres23_2 fres23_3 fres23_4 cp23_0 cp23_1 cp23_2 cp23_3 cp23_4 fp23_0 fp23_1 fp23_2 fp23_3 fp23_4
      clear hl3 hs3
      have cq := zat (Oz_24.out.row encZ_len) HPK.out
      go_wp2_with (fail)
      refine (l6Thread_calls p _ hp2).mono ?_
      rintro e w25 ⟨v, ops, b4, rfl, ho_h, hlt9, hst, hb⟩
      have B25 := Lib.hid (Below.trans B24.out (hb.mono (by first | omega | (simp only [szA, szS, szD, World.heap_drewN] at * <;> omega))) : Below w.heap.size w w25)
      have Z25 := hb.size
      have N25 : w24.heap.size ≤ w25.heap.size := (by first | with_reducible exact Z25 | (simp only [szA, szS, szD] at Z25; omega))
      clear Z25
      have Xres_25 := Lib.hid (below_at hb Xres_24.out)
      have Xp_25 := Lib.hid (below_at hb Xp_24.out)
      have Oq0_25 := Lib.hid (Oq0_24.out.kept hb)
      have Oq1_25 := Lib.hid (Oq1_24.out.kept hb)
      have Oq2_25 := Lib.hid (Oq2_24.out.kept hb)
      have Oq3_25 := Lib.hid (Oq3_24.out.kept hb)
      have Oq4_25 := Lib.hid (Oq4_24.out.kept hb)
      have Oz_25 := Lib.hid (Oz_24.out.kept hb)
      have Ol0_25 := Lib.hid (Ol0_24.out.kept hb)
      have Ol1_25 := Lib.hid (Ol1_24.out.kept hb)
      have Ol2_25 := Lib.hid (Ol2_24.out.kept hb)
      have Ol3_25 := Lib.hid (Ol3_24.out.kept hb)
      have Oh_25 := Lib.hid (Own.mono (base' := w.heap.size) ho_h (by first | omega | (simp only [szA, szS, szD, World.heap_drewN] at * <;> omega))); obtain ⟨ah, ph, rfl⟩ := ho_h.form; clear ho_h
      clear hb
      obtain ⟨cres25_0, cres25_1, cres25_2, cres25_3, cres25_4, fres25_0, fres25_1, fres25_2, fres25_3, fres25_4⟩ := box5 Xres_25.out; have lres25 := heap_lt Xres_25.out
      obtain ⟨cp25_0, cp25_1, cp25_2, cp25_3, cp25_4, fp25_0, fp25_1, fp25_2, fp25_3, fp25_4⟩ := box5 Xp_25.out; have lp25 := heap_lt Xp_25.out
      have S25 : w.heap.size ≤ w25.heap.size := (by omega)
      clear cres24_0 cres24_1 cres24_2 cres24_3 cres24_4 fres24_0 fres24_1 fres24_2 fres24_3 fres24_4 cp24_0 cp24_1 cp24_2 cp24_3 cp24_4 fp24_0 fp24_1 fp24_2 fp24_3 fp24_4
      clear hlt9 hst
      cases b0
      · cases b1
        · cases b2
          · cases b3
            · cases b4
              · go_wp2
                go_roundw
                case rel => exact ⟨k + 1, ⟨c.sems, c.groups, c.barriers, c.rooms, c.threads⟩, _, _, _, _, _, _, _, _, _, _, by go_num, by omega, by show c.threads.length ≤ k + 1; omega, Oq0_25.out, Oq1_25.out, Oq2_25.out, Oq3_25.out, Oq4_25.out, Oz_25.out, Xres_25.out, Xp_25.out, by first | omega | (simp only [szA, szS, szD]; omega), B25.out⟩
                case measure => (simp [intOf] <;> omega)
              · go_wp2_with (at_builtin; obtain ⟨us, hus, hin⟩ := Oq4_25.out; have hul : us.length = c.threads.length := hin.1; have hus2 : Own w.heap.size 74 1 encS _ (.slice aq4 us.length pq4) us := (by rw [hul]; exact hus); refine wpList_snoc _ encS_len one_sv rfl _ _ 32 rfl 74 _ 24 Tryd.underlying32 info_Ops rfl (by decide) w.heap.size (.slice aq4 c.threads.length pq4) us rfl hus (ah, ops.length, ph) _ rfl _ rfl (by first | omega | (simp only [szA, szS, szD, World.heap_drewN] at * <;> omega)) (by decide) (by omega) (by first | omega | (simp only [szA, szS, szD, World.heap_drewN] at * <;> omega)) ?_; intro ad26 cp26 w26 hown hg hat; obtain ⟨q4L26, hq4L26⟩ : ∃ l, c.threads ++ [ops] = l := ⟨_, rfl⟩; have lq4L26 : us.length + 1 = q4L26.length := (by rw [← hq4L26, List.length_append, List.length_singleton, hul]); rw [lq4L26] at hown; rw [lq4L26]; clear hat; have hua := hus.alloc (.cells #[.slice ah ops.length ph] 74); have Xres_26 := Lib.hid (grown_at2 hg (heap_up Xres_25.out) (hua.ne (heap_up Xres_25.out) (by decide))); have Xp_26 := Lib.hid (grown_at2 hg (heap_up Xp_25.out) (hua.ne (heap_up Xp_25.out) (by decide))); have Oq0_26 := Lib.hid ((Oq0_25.out.alloc _).apart hg (Own.apart_types hua (Oq0_25.out.alloc _) (by decide))); have Oq1_26 := Lib.hid ((Oq1_25.out.alloc _).apart hg (Own.apart_types hua (Oq1_25.out.alloc _) (by decide))); have Oq2_26 := Lib.hid ((Oq2_25.out.alloc _).apart hg (Own.apart_types hua (Oq2_25.out.alloc _) (by decide))); have Oq3_26 := Lib.hid ((Oq3_25.out.alloc _).apart hg (Own.apart_types hua (Oq3_25.out.alloc _) (by decide))); have Oz_26 := Lib.hid ((Oz_25.out.alloc _).apart hg (Own.apart_types hua (Oz_25.out.alloc _) (by decide))); have Ol0_26 := Lib.hid ((Ol0_25.out.alloc _).apart hg (Own.apart_types hua (Ol0_25.out.alloc _) (by decide))); have Ol1_26 := Lib.hid ((Ol1_25.out.alloc _).apart hg (Own.apart_types hua (Ol1_25.out.alloc _) (by decide))); have Ol2_26 := Lib.hid ((Ol2_25.out.alloc _).apart hg (Own.apart_types hua (Ol2_25.out.alloc _) (by decide))); have Ol3_26 := Lib.hid ((Ol3_25.out.alloc _).apart hg (Own.apart_types hua (Ol3_25.out.alloc _) (by decide))); have Oh_26 := Lib.hid ((Oh_25.out.alloc _).apart hg (Own.apart_types hua (Oh_25.out.alloc _) (by decide))); have hbb : Below (w25).heap.size (w25) ((w25.alloc (.cells #[.slice ah ops.length ph] 74))) := Below.alloc (Below.refl _ _) (Nat.le_refl _) _; have hg2 : World.grownBy ((w25.alloc (.cells #[.slice ah ops.length ph] 74))) w26 (Value.slice aq4 us.length pq4).ownBlock := (by rw [hul]; exact hg); have Oq4_26 := Lib.hid (TTOwn.more hin hus2 Oh_26.out hbb hg2 hq4L26 hown); have B26 := Lib.hid (Below.grown (Below.alloc B25.out (by first | omega | (simp only [szA, szS, szD, World.heap_drewN] at * <;> omega)) _) hg (by first | omega | (simp only [szA, szS, szD, World.heap_drewN]; omega)) (fun g e => hus.blk g e)); have N26 : w25.heap.size + 1 ≤ w26.heap.size := (by first | with_reducible exact hg.size | (have := hg.size; simp only [szA, szS, szD] at this; omega)); have Kq4L26 := Lib.hid (show c.threads.length + 1 = q4L26.length from (by rw [← hul]; exact lq4L26)); have Hq4L26 := Lib.hid hq4L26; clear hq4L26 lq4L26 hbb hg2 hus2 hin hul hua hus hown hg; obtain ⟨cres26_0, cres26_1, cres26_2, cres26_3, cres26_4, fres26_0, fres26_1, fres26_2, fres26_3, fres26_4⟩ := box5 Xres_26.out; have lres26 := heap_lt Xres_26.out; obtain ⟨cp26_0, cp26_1, cp26_2, cp26_3, cp26_4, fp26_0, fp26_1, fp26_2, fp26_3, fp26_4⟩ := box5 Xp_26.out; have lp26 := heap_lt Xp_26.out; have S26 : w.heap.size ≤ w26.heap.size := (by omega))
                clear cres25_0 cres25_1 cres25_2 cres25_3 cres25_4 fres25_0 fres25_1 fres25_2 fres25_3 fres25_4 cp25_0 cp25_1 cp25_2 cp25_3 cp25_4 fp25_0 fp25_1 fp25_2 fp25_3 fp25_4
                go_roundw
                case rel => exact ⟨k + 1, ⟨c.sems, c.groups, c.barriers, c.rooms, q4L26⟩, _, _, _, _, _, _, _, _, _, _, by go_num, by omega, by show q4L26.length ≤ k + 1; have := Kq4L26.out; omega, (Oq0_26.out.setB (w1.heap.size) 4 Xp_26.out (by decide) (.slice ad26 q4L26.length cp26)), (Oq1_26.out.setB (w1.heap.size) 4 Xp_26.out (by decide) (.slice ad26 q4L26.length cp26)), (Oq2_26.out.setB (w1.heap.size) 4 Xp_26.out (by decide) (.slice ad26 q4L26.length cp26)), (Oq3_26.out.setB (w1.heap.size) 4 Xp_26.out (by decide) (.slice ad26 q4L26.length cp26)), (Oq4_26.out.setB (w1.heap.size) 4 Xp_26.out (by decide) (.slice ad26 q4L26.length cp26)), (Oz_26.out.setB (w1.heap.size) 4 Xp_26.out (by decide) (.slice ad26 q4L26.length cp26)), (set_off (a := ⟨w1.heap.size, 4, none⟩) Xres_26.out (by first | omega | (simp only [szA, szS, szD, World.heap_drewN] at * <;> omega)) (.slice ad26 q4L26.length cp26)), (set_at (a := ⟨w1.heap.size, 4, none⟩) Xp_26.out rfl rfl (.slice ad26 q4L26.length cp26)), by first | omega | (simp only [szA, szS, szD]; omega), (below_setAt B26.out (w1.heap.size) 4 (by first | omega | (simp only [szA, szS, szD, World.heap_drewN] at * <;> omega)) (.slice ad26 q4L26.length cp26))⟩
                case measure => (simp [intOf] <;> omega)
            · go_wp2
              go_roundw
              case rel => exact ⟨k + 1, ⟨c.sems, c.groups, c.barriers, ns3, c.threads⟩, _, _, _, _, _, _, _, _, _, _, by go_num, by omega, by show c.threads.length ≤ k + 1; omega, (Oq0_25.out.setB (w1.heap.size) 3 Xp_25.out (by decide) (.slice al3 ns3.length pl3)), (Oq1_25.out.setB (w1.heap.size) 3 Xp_25.out (by decide) (.slice al3 ns3.length pl3)), (Oq2_25.out.setB (w1.heap.size) 3 Xp_25.out (by decide) (.slice al3 ns3.length pl3)), (Ol3_25.out.setB (w1.heap.size) 3 Xp_25.out (by decide) (.slice al3 ns3.length pl3)), (Oq4_25.out.setB (w1.heap.size) 3 Xp_25.out (by decide) (.slice al3 ns3.length pl3)), (Oz_25.out.setB (w1.heap.size) 3 Xp_25.out (by decide) (.slice al3 ns3.length pl3)), (set_off (a := ⟨w1.heap.size, 3, none⟩) Xres_25.out (by first | omega | (simp only [szA, szS, szD, World.heap_drewN] at * <;> omega)) (.slice al3 ns3.length pl3)), (set_at (a := ⟨w1.heap.size, 3, none⟩) Xp_25.out rfl rfl (.slice al3 ns3.length pl3)), by first | omega | (simp only [szA, szS, szD]; omega), (below_setAt B25.out (w1.heap.size) 3 (by first | omega | (simp only [szA, szS, szD, World.heap_drewN] at * <;> omega)) (.slice al3 ns3.length pl3))⟩
              case measure => (simp [intOf] <;> omega)
          · go_wp2
            go_roundw
            case rel => exact ⟨k + 1, ⟨c.sems, c.groups, ns2, c.rooms, c.threads⟩, _, _, _, _, _, _, _, _, _, _, by go_num, by omega, by show c.threads.length ≤ k + 1; omega, (Oq0_25.out.setB (w1.heap.size) 2 Xp_25.out (by decide) (.slice al2 ns2.length pl2)), (Oq1_25.out.setB (w1.heap.size) 2 Xp_25.out (by decide) (.slice al2 ns2.length pl2)), (Ol2_25.out.setB (w1.heap.size) 2 Xp_25.out (by decide) (.slice al2 ns2.length pl2)), (Oq3_25.out.setB (w1.heap.size) 2 Xp_25.out (by decide) (.slice al2 ns2.length pl2)), (Oq4_25.out.setB (w1.heap.size) 2 Xp_25.out (by decide) (.slice al2 ns2.length pl2)), (Oz_25.out.setB (w1.heap.size) 2 Xp_25.out (by decide) (.slice al2 ns2.length pl2)), (set_off (a := ⟨w1.heap.size, 2, none⟩) Xres_25.out (by first | omega | (simp only [szA, szS, szD, World.heap_drewN] at * <;> omega)) (.slice al2 ns2.length pl2)), (set_at (a := ⟨w1.heap.size, 2, none⟩) Xp_25.out rfl rfl (.slice al2 ns2.length pl2)), by first | omega | (simp only [szA, szS, szD]; omega), (below_setAt B25.out (w1.heap.size) 2 (by first | omega | (simp only [szA, szS, szD, World.heap_drewN] at * <;> omega)) (.slice al2 ns2.length pl2))⟩
            case measure => (simp [intOf] <;> omega)
        · go_wp2
          go_roundw
          case rel => exact ⟨k + 1, ⟨c.sems, ns1, c.barriers, c.rooms, c.threads⟩, _, _, _, _, _, _, _, _, _, _, by go_num, by omega, by show c.threads.length ≤ k + 1; omega, (Oq0_25.out.setB (w1.heap.size) 1 Xp_25.out (by decide) (.slice al1 ns1.length pl1)), (Ol1_25.out.setB (w1.heap.size) 1 Xp_25.out (by decide) (.slice al1 ns1.length pl1)), (Oq2_25.out.setB (w1.heap.size) 1 Xp_25.out (by decide) (.slice al1 ns1.length pl1)), (Oq3_25.out.setB (w1.heap.size) 1 Xp_25.out (by decide) (.slice al1 ns1.length pl1)), (Oq4_25.out.setB (w1.heap.size) 1 Xp_25.out (by decide) (.slice al1 ns1.length pl1)), (Oz_25.out.setB (w1.heap.size) 1 Xp_25.out (by decide) (.slice al1 ns1.length pl1)), (set_off (a := ⟨w1.heap.size, 1, none⟩) Xres_25.out (by first | omega | (simp only [szA, szS, szD, World.heap_drewN] at * <;> omega)) (.slice al1 ns1.length pl1)), (set_at (a := ⟨w1.heap.size, 1, none⟩) Xp_25.out rfl rfl (.slice al1 ns1.length pl1)), by first | omega | (simp only [szA, szS, szD]; omega), (below_setAt B25.out (w1.heap.size) 1 (by first | omega | (simp only [szA, szS, szD, World.heap_drewN] at * <;> omega)) (.slice al1 ns1.length pl1))⟩
          case measure => (simp [intOf] <;> omega)
      · go_wp2
        go_roundw
        case rel => exact ⟨k + 1, ⟨ns0, c.groups, c.barriers, c.rooms, c.threads⟩, _, _, _, _, _, _, _, _, _, _, by go_num, by omega, by show c.threads.length ≤ k + 1; omega, (Ol0_25.out.setB (w1.heap.size) 0 Xp_25.out (by decide) (.slice al0 ns0.length pl0)), (Oq1_25.out.setB (w1.heap.size) 0 Xp_25.out (by decide) (.slice al0 ns0.length pl0)), (Oq2_25.out.setB (w1.heap.size) 0 Xp_25.out (by decide) (.slice al0 ns0.length pl0)), (Oq3_25.out.setB (w1.heap.size) 0 Xp_25.out (by decide) (.slice al0 ns0.length pl0)), (Oq4_25.out.setB (w1.heap.size) 0 Xp_25.out (by decide) (.slice al0 ns0.length pl0)), (Oz_25.out.setB (w1.heap.size) 0 Xp_25.out (by decide) (.slice al0 ns0.length pl0)), (set_off (a := ⟨w1.heap.size, 0, none⟩) Xres_25.out (by first | omega | (simp only [szA, szS, szD, World.heap_drewN] at * <;> omega)) (.slice al0 ns0.length pl0)), (set_at (a := ⟨w1.heap.size, 0, none⟩) Xp_25.out rfl rfl (.slice al0 ns0.length pl0)), by first | omega | (simp only [szA, szS, szD]; omega), (below_setAt B25.out (w1.heap.size) 0 (by first | omega | (simp only [szA, szS, szD, World.heap_drewN] at * <;> omega)) (.slice al0 ns0.length pl0))⟩
        case measure => (simp [intOf] <;> omega)
    · by_cases hlt : k + 1 < ws.length
      · have d2 : decide ((k : Int) + 1 < (ws.length : Int)) = true := decide_eq_true (by omega)
        have d3 : decide ((k : Int) < 9) = false := decide_eq_false (by omega)
        clear hlt
        skip
        cases hv : progB c
        · have HV := Lib.hid hv; clear hv
          go_wp2_with (fail)
          refine (sProgValidO _ c _ (ProgOwn.row (c := c) (hi := 0) (ProgOwn.make Oq0_20.out Oq1_20.out Oq2_20.out Oq3_20.out Oq4_20.out))).mono ?_
          rw [HV.out]
          rintro e w21 ⟨rfl, hb⟩
          have B21 := Lib.hid (Below.trans B20.out (hb.mono (by first | omega | (simp only [szA, szS, szD, World.heap_drewN] at * <;> omega))) : Below w.heap.size w w21)
          have Z21 := hb.size
          have N21 : w20.heap.size ≤ w21.heap.size := (by first | with_reducible exact Z21 | (simp only [szA, szS, szD] at Z21; omega))
          clear Z21
          have Xres_21 := Lib.hid (below_at hb Xres_20.out)
          have Xp_21 := Lib.hid (below_at hb Xp_20.out)
          have Oq0_21 := Lib.hid (Oq0_20.out.kept hb)
          have Oq1_21 := Lib.hid (Oq1_20.out.kept hb)
          have Oq2_21 := Lib.hid (Oq2_20.out.kept hb)
          have Oq3_21 := Lib.hid (Oq3_20.out.kept hb)
          have Oq4_21 := Lib.hid (Oq4_20.out.kept hb)
          have Oz_21 := Lib.hid (Oz_20.out.kept hb)
          clear hb
          obtain ⟨cres21_0, cres21_1, cres21_2, cres21_3, cres21_4, fres21_0, fres21_1, fres21_2, fres21_3, fres21_4⟩ := box5 Xres_21.out; have lres21 := heap_lt Xres_21.out
          obtain ⟨cp21_0, cp21_1, cp21_2, cp21_3, cp21_4, fp21_0, fp21_1, fp21_2, fp21_3, fp21_4⟩ := box5 Xp_21.out; have lp21 := heap_lt Xp_21.out
          have S21 : w.heap.size ≤ w21.heap.size := (by omega)
          go_wp2_with (fail)
          refine bodyPost_ret (v := .tuple #[.agg #[.slice none 0 0, .slice none 0 0, .slice none 0 0, .slice none 0 0, .slice none 0 0], .bool false]) (by simp [results, Tryd.results38, go_sem, cres21_0, cres21_1, cres21_2, cres21_3, cres21_4, lres21, cp21_0, cp21_1, cp21_2, cp21_3, cp21_4, lp21, nrp, npr]) rfl ⟨_, _, _, rfl, (ProgOwn.make (Own.nil _ _ _ _ _) (Own.nil _ _ _ _ _) (Own.nil _ _ _ _ _) (Own.nil _ _ _ _ _) (TTOwn.empty (Own.nil _ _ _ _ _)) : ProgOwn _ _ _ _ ProgD.zero), .inl rfl, (below_setAt (below_setAt (below_setAt (below_setAt (below_setAt B21.out (w.heap.size) 0 (by first | omega | (simp only [szA, szS, szD, World.heap_drewN] at * <;> omega)) (.slice none 0 0)) (w.heap.size) 1 (by first | omega | (simp only [szA, szS, szD, World.heap_drewN] at * <;> omega)) (.slice none 0 0)) (w.heap.size) 2 (by first | omega | (simp only [szA, szS, szD, World.heap_drewN] at * <;> omega)) (.slice none 0 0)) (w.heap.size) 3 (by first | omega | (simp only [szA, szS, szD, World.heap_drewN] at * <;> omega)) (.slice none 0 0)) (w.heap.size) 4 (by first | omega | (simp only [szA, szS, szD, World.heap_drewN] at * <;> omega)) (.slice none 0 0))⟩
        · have HV := Lib.hid hv; clear hv
          go_wp2_with (fail)
          refine (sProgValidO _ c _ (ProgOwn.row (c := c) (hi := 0) (ProgOwn.make Oq0_20.out Oq1_20.out Oq2_20.out Oq3_20.out Oq4_20.out))).mono ?_
          rw [HV.out]
          rintro e w21 ⟨rfl, hb⟩
          have B21 := Lib.hid (Below.trans B20.out (hb.mono (by first | omega | (simp only [szA, szS, szD, World.heap_drewN] at * <;> omega))) : Below w.heap.size w w21)
          have Z21 := hb.size
          have N21 : w20.heap.size ≤ w21.heap.size := (by first | with_reducible exact Z21 | (simp only [szA, szS, szD] at Z21; omega))
          clear Z21
          have Xres_21 := Lib.hid (below_at hb Xres_20.out)
          have Xp_21 := Lib.hid (below_at hb Xp_20.out)
          have Oq0_21 := Lib.hid (Oq0_20.out.kept hb)
          have Oq1_21 := Lib.hid (Oq1_20.out.kept hb)
          have Oq2_21 := Lib.hid (Oq2_20.out.kept hb)
          have Oq3_21 := Lib.hid (Oq3_20.out.kept hb)
          have Oq4_21 := Lib.hid (Oq4_20.out.kept hb)
          have Oz_21 := Lib.hid (Oz_20.out.kept hb)
          clear hb
          obtain ⟨cres21_0, cres21_1, cres21_2, cres21_3, cres21_4, fres21_0, fres21_1, fres21_2, fres21_3, fres21_4⟩ := box5 Xres_21.out; have lres21 := heap_lt Xres_21.out
          obtain ⟨cp21_0, cp21_1, cp21_2, cp21_3, cp21_4, fp21_0, fp21_1, fp21_2, fp21_3, fp21_4⟩ := box5 Xp_21.out; have lp21 := heap_lt Xp_21.out
          have S21 : w.heap.size ≤ w21.heap.size := (by omega)
          go_wp2_with (fail)
          refine (sFormatProg_calls _ c _ (ProgOwn.row (c := c) (hi := 0) (ProgOwn.make Oq0_21.out Oq1_21.out Oq2_21.out Oq3_21.out Oq4_21.out))).mono ?_
          rintro e w22 ⟨s, rfl, hb⟩
          have B22 := Lib.hid (Below.trans B21.out (hb.mono (by first | omega | (simp only [szA, szS, szD, World.heap_drewN] at * <;> omega))) : Below w.heap.size w w22)
          have Z22 := hb.size
          have N22 : w21.heap.size ≤ w22.heap.size := (by first | with_reducible exact Z22 | (simp only [szA, szS, szD] at Z22; omega))
          clear Z22
          have Xres_22 := Lib.hid (below_at hb Xres_21.out)
          have Xp_22 := Lib.hid (below_at hb Xp_21.out)
          have Oq0_22 := Lib.hid (Oq0_21.out.kept hb)
          have Oq1_22 := Lib.hid (Oq1_21.out.kept hb)
          have Oq2_22 := Lib.hid (Oq2_21.out.kept hb)
          have Oq3_22 := Lib.hid (Oq3_21.out.kept hb)
          have Oq4_22 := Lib.hid (Oq4_21.out.kept hb)
          have Oz_22 := Lib.hid (Oz_21.out.kept hb)
          clear hb
          obtain ⟨cres22_0, cres22_1, cres22_2, cres22_3, cres22_4, fres22_0, fres22_1, fres22_2, fres22_3, fres22_4⟩ := box5 Xres_22.out; have lres22 := heap_lt Xres_22.out
          obtain ⟨cp22_0, cp22_1, cp22_2, cp22_3, cp22_4, fp22_0, fp22_1, fp22_2, fp22_3, fp22_4⟩ := box5 Xp_22.out; have lp22 := heap_lt Xp_22.out
          have S22 : w.heap.size ≤ w22.heap.size := (by omega)
          clear cres21_0 cres21_1 cres21_2 cres21_3 cres21_4 fres21_0 fres21_1 fres21_2 fres21_3 fres21_4 cp21_0 cp21_1 cp21_2 cp21_3 cp21_4 fp21_0 fp21_1 fp21_2 fp21_3 fp21_4
          by_cases he : s = text
          · have q1 := str_eq he
            clear he
            go_wp2_with (fail)
            refine bodyPost_ret (v := .tuple #[.agg #[.slice aq0 c.sems.length pq0, .slice aq1 c.groups.length pq1, .slice aq2 c.barriers.length pq2, .slice aq3 c.rooms.length pq3, .slice aq4 c.threads.length pq4], .bool true]) (by simp [results, Tryd.results38, go_sem, cres22_0, cres22_1, cres22_2, cres22_3, cres22_4, lres22, cp22_0, cp22_1, cp22_2, cp22_3, cp22_4, lp22, nrp, npr]) rfl ⟨_, _, _, rfl, ((ProgOwn.make (((((Oq0_22.out.setB (w.heap.size) 0 Xres_22.out (by decide) (.slice aq0 c.sems.length pq0)).setB (w.heap.size) 1 (set_at (a := ⟨w.heap.size, 0, none⟩) Xres_22.out rfl rfl (.slice aq0 c.sems.length pq0)) (by decide) (.slice aq1 c.groups.length pq1)).setB (w.heap.size) 2 (set_at (a := ⟨w.heap.size, 1, none⟩) (set_at (a := ⟨w.heap.size, 0, none⟩) Xres_22.out rfl rfl (.slice aq0 c.sems.length pq0)) rfl rfl (.slice aq1 c.groups.length pq1)) (by decide) (.slice aq2 c.barriers.length pq2)).setB (w.heap.size) 3 (set_at (a := ⟨w.heap.size, 2, none⟩) (set_at (a := ⟨w.heap.size, 1, none⟩) (set_at (a := ⟨w.heap.size, 0, none⟩) Xres_22.out rfl rfl (.slice aq0 c.sems.length pq0)) rfl rfl (.slice aq1 c.groups.length pq1)) rfl rfl (.slice aq2 c.barriers.length pq2)) (by decide) (.slice aq3 c.rooms.length pq3)).setB (w.heap.size) 4 (set_at (a := ⟨w.heap.size, 3, none⟩) (set_at (a := ⟨w.heap.size, 2, none⟩) (set_at (a := ⟨w.heap.size, 1, none⟩) (set_at (a := ⟨w.heap.size, 0, none⟩) Xres_22.out rfl rfl (.slice aq0 c.sems.length pq0)) rfl rfl (.slice aq1 c.groups.length pq1)) rfl rfl (.slice aq2 c.barriers.length pq2)) rfl rfl (.slice aq3 c.rooms.length pq3)) (by decide) (.slice aq4 c.threads.length pq4)) (((((Oq1_22.out.setB (w.heap.size) 0 Xres_22.out (by decide) (.slice aq0 c.sems.length pq0)).setB (w.heap.size) 1 (set_at (a := ⟨w.heap.size, 0, none⟩) Xres_22.out rfl rfl (.slice aq0 c.sems.length pq0)) (by decide) (.slice aq1 c.groups.length pq1)).setB (w.heap.size) 2 (set_at (a := ⟨w.heap.size, 1, none⟩) (set_at (a := ⟨w.heap.size, 0, none⟩) Xres_22.out rfl rfl (.slice aq0 c.sems.length pq0)) rfl rfl (.slice aq1 c.groups.length pq1)) (by decide) (.slice aq2 c.barriers.length pq2)).setB (w.heap.size) 3 (set_at (a := ⟨w.heap.size, 2, none⟩) (set_at (a := ⟨w.heap.size, 1, none⟩) (set_at (a := ⟨w.heap.size, 0, none⟩) Xres_22.out rfl rfl (.slice aq0 c.sems.length pq0)) rfl rfl (.slice aq1 c.groups.length pq1)) rfl rfl (.slice aq2 c.barriers.length pq2)) (by decide) (.slice aq3 c.rooms.length pq3)).setB (w.heap.size) 4 (set_at (a := ⟨w.heap.size, 3, none⟩) (set_at (a := ⟨w.heap.size, 2, none⟩) (set_at (a := ⟨w.heap.size, 1, none⟩) (set_at (a := ⟨w.heap.size, 0, none⟩) Xres_22.out rfl rfl (.slice aq0 c.sems.length pq0)) rfl rfl (.slice aq1 c.groups.length pq1)) rfl rfl (.slice aq2 c.barriers.length pq2)) rfl rfl (.slice aq3 c.rooms.length pq3)) (by decide) (.slice aq4 c.threads.length pq4)) (((((Oq2_22.out.setB (w.heap.size) 0 Xres_22.out (by decide) (.slice aq0 c.sems.length pq0)).setB (w.heap.size) 1 (set_at (a := ⟨w.heap.size, 0, none⟩) Xres_22.out rfl rfl (.slice aq0 c.sems.length pq0)) (by decide) (.slice aq1 c.groups.length pq1)).setB (w.heap.size) 2 (set_at (a := ⟨w.heap.size, 1, none⟩) (set_at (a := ⟨w.heap.size, 0, none⟩) Xres_22.out rfl rfl (.slice aq0 c.sems.length pq0)) rfl rfl (.slice aq1 c.groups.length pq1)) (by decide) (.slice aq2 c.barriers.length pq2)).setB (w.heap.size) 3 (set_at (a := ⟨w.heap.size, 2, none⟩) (set_at (a := ⟨w.heap.size, 1, none⟩) (set_at (a := ⟨w.heap.size, 0, none⟩) Xres_22.out rfl rfl (.slice aq0 c.sems.length pq0)) rfl rfl (.slice aq1 c.groups.length pq1)) rfl rfl (.slice aq2 c.barriers.length pq2)) (by decide) (.slice aq3 c.rooms.length pq3)).setB (w.heap.size) 4 (set_at (a := ⟨w.heap.size, 3, none⟩) (set_at (a := ⟨w.heap.size, 2, none⟩) (set_at (a := ⟨w.heap.size, 1, none⟩) (set_at (a := ⟨w.heap.size, 0, none⟩) Xres_22.out rfl rfl (.slice aq0 c.sems.length pq0)) rfl rfl (.slice aq1 c.groups.length pq1)) rfl rfl (.slice aq2 c.barriers.length pq2)) rfl rfl (.slice aq3 c.rooms.length pq3)) (by decide) (.slice aq4 c.threads.length pq4)) (((((Oq3_22.out.setB (w.heap.size) 0 Xres_22.out (by decide) (.slice aq0 c.sems.length pq0)).setB (w.heap.size) 1 (set_at (a := ⟨w.heap.size, 0, none⟩) Xres_22.out rfl rfl (.slice aq0 c.sems.length pq0)) (by decide) (.slice aq1 c.groups.length pq1)).setB (w.heap.size) 2 (set_at (a := ⟨w.heap.size, 1, none⟩) (set_at (a := ⟨w.heap.size, 0, none⟩) Xres_22.out rfl rfl (.slice aq0 c.sems.length pq0)) rfl rfl (.slice aq1 c.groups.length pq1)) (by decide) (.slice aq2 c.barriers.length pq2)).setB (w.heap.size) 3 (set_at (a := ⟨w.heap.size, 2, none⟩) (set_at (a := ⟨w.heap.size, 1, none⟩) (set_at (a := ⟨w.heap.size, 0, none⟩) Xres_22.out rfl rfl (.slice aq0 c.sems.length pq0)) rfl rfl (.slice aq1 c.groups.length pq1)) rfl rfl (.slice aq2 c.barriers.length pq2)) (by decide) (.slice aq3 c.rooms.length pq3)).setB (w.heap.size) 4 (set_at (a := ⟨w.heap.size, 3, none⟩) (set_at (a := ⟨w.heap.size, 2, none⟩) (set_at (a := ⟨w.heap.size, 1, none⟩) (set_at (a := ⟨w.heap.size, 0, none⟩) Xres_22.out rfl rfl (.slice aq0 c.sems.length pq0)) rfl rfl (.slice aq1 c.groups.length pq1)) rfl rfl (.slice aq2 c.barriers.length pq2)) rfl rfl (.slice aq3 c.rooms.length pq3)) (by decide) (.slice aq4 c.threads.length pq4)) (((((Oq4_22.out.setB (w.heap.size) 0 Xres_22.out (by decide) (.slice aq0 c.sems.length pq0)).setB (w.heap.size) 1 (set_at (a := ⟨w.heap.size, 0, none⟩) Xres_22.out rfl rfl (.slice aq0 c.sems.length pq0)) (by decide) (.slice aq1 c.groups.length pq1)).setB (w.heap.size) 2 (set_at (a := ⟨w.heap.size, 1, none⟩) (set_at (a := ⟨w.heap.size, 0, none⟩) Xres_22.out rfl rfl (.slice aq0 c.sems.length pq0)) rfl rfl (.slice aq1 c.groups.length pq1)) (by decide) (.slice aq2 c.barriers.length pq2)).setB (w.heap.size) 3 (set_at (a := ⟨w.heap.size, 2, none⟩) (set_at (a := ⟨w.heap.size, 1, none⟩) (set_at (a := ⟨w.heap.size, 0, none⟩) Xres_22.out rfl rfl (.slice aq0 c.sems.length pq0)) rfl rfl (.slice aq1 c.groups.length pq1)) rfl rfl (.slice aq2 c.barriers.length pq2)) (by decide) (.slice aq3 c.rooms.length pq3)).setB (w.heap.size) 4 (set_at (a := ⟨w.heap.size, 3, none⟩) (set_at (a := ⟨w.heap.size, 2, none⟩) (set_at (a := ⟨w.heap.size, 1, none⟩) (set_at (a := ⟨w.heap.size, 0, none⟩) Xres_22.out rfl rfl (.slice aq0 c.sems.length pq0)) rfl rfl (.slice aq1 c.groups.length pq1)) rfl rfl (.slice aq2 c.barriers.length pq2)) rfl rfl (.slice aq3 c.rooms.length pq3)) (by decide) (.slice aq4 c.threads.length pq4))) : ProgOwn _ _ _ _ c), .inr (progB_true.1 HV.out), (below_setAt (below_setAt (below_setAt (below_setAt (below_setAt B22.out (w.heap.size) 0 (by first | omega | (simp only [szA, szS, szD, World.heap_drewN] at * <;> omega)) (.slice aq0 c.sems.length pq0)) (w.heap.size) 1 (by first | omega | (simp only [szA, szS, szD, World.heap_drewN] at * <;> omega)) (.slice aq1 c.groups.length pq1)) (w.heap.size) 2 (by first | omega | (simp only [szA, szS, szD, World.heap_drewN] at * <;> omega)) (.slice aq2 c.barriers.length pq2)) (w.heap.size) 3 (by first | omega | (simp only [szA, szS, szD, World.heap_drewN] at * <;> omega)) (.slice aq3 c.rooms.length pq3)) (w.heap.size) 4 (by first | omega | (simp only [szA, szS, szD, World.heap_drewN] at * <;> omega)) (.slice aq4 c.threads.length pq4))⟩
          · have q1 := str_ne he
            clear he
            go_wp2_with (fail)
            refine bodyPost_ret (v := .tuple #[.agg #[.slice none 0 0, .slice none 0 0, .slice none 0 0, .slice none 0 0, .slice none 0 0], .bool false]) (by simp [results, Tryd.results38, go_sem, cres22_0, cres22_1, cres22_2, cres22_3, cres22_4, lres22, cp22_0, cp22_1, cp22_2, cp22_3, cp22_4, lp22, nrp, npr]) rfl ⟨_, _, _, rfl, (ProgOwn.make (Own.nil _ _ _ _ _) (Own.nil _ _ _ _ _) (Own.nil _ _ _ _ _) (Own.nil _ _ _ _ _) (TTOwn.empty (Own.nil _ _ _ _ _)) : ProgOwn _ _ _ _ ProgD.zero), .inl rfl, (below_setAt (below_setAt (below_setAt (below_setAt (below_setAt B22.out (w.heap.size) 0 (by first | omega | (simp only [szA, szS, szD, World.heap_drewN] at * <;> omega)) (.slice none 0 0)) (w.heap.size) 1 (by first | omega | (simp only [szA, szS, szD, World.heap_drewN] at * <;> omega)) (.slice none 0 0)) (w.heap.size) 2 (by first | omega | (simp only [szA, szS, szD, World.heap_drewN] at * <;> omega)) (.slice none 0 0)) (w.heap.size) 3 (by first | omega | (simp only [szA, szS, szD, World.heap_drewN] at * <;> omega)) (.slice none 0 0)) (w.heap.size) 4 (by first | omega | (simp only [szA, szS, szD, World.heap_drewN] at * <;> omega)) (.slice none 0 0))⟩
      · have d2 : decide ((k : Int) + 1 < (ws.length : Int)) = false := decide_eq_false (by omega)
        clear hlt
        skip
        cases hv : progB c
        · have HV := Lib.hid hv; clear hv
          go_wp2_with (fail)
          refine (sProgValidO _ c _ (ProgOwn.row (c := c) (hi := 0) (ProgOwn.make Oq0_20.out Oq1_20.out Oq2_20.out Oq3_20.out Oq4_20.out))).mono ?_
          rw [HV.out]
          rintro e w21 ⟨rfl, hb⟩
          have B21 := Lib.hid (Below.trans B20.out (hb.mono (by first | omega | (simp only [szA, szS, szD, World.heap_drewN] at * <;> omega))) : Below w.heap.size w w21)
          have Z21 := hb.size
          have N21 : w20.heap.size ≤ w21.heap.size := (by first | with_reducible exact Z21 | (simp only [szA, szS, szD] at Z21; omega))
          clear Z21
          have Xres_21 := Lib.hid (below_at hb Xres_20.out)
          have Xp_21 := Lib.hid (below_at hb Xp_20.out)
          have Oq0_21 := Lib.hid (Oq0_20.out.kept hb)
          have Oq1_21 := Lib.hid (Oq1_20.out.kept hb)
          have Oq2_21 := Lib.hid (Oq2_20.out.kept hb)
          have Oq3_21 := Lib.hid (Oq3_20.out.kept hb)
          have Oq4_21 := Lib.hid (Oq4_20.out.kept hb)
          have Oz_21 := Lib.hid (Oz_20.out.kept hb)
          clear hb
          obtain ⟨cres21_0, cres21_1, cres21_2, cres21_3, cres21_4, fres21_0, fres21_1, fres21_2, fres21_3, fres21_4⟩ := box5 Xres_21.out; have lres21 := heap_lt Xres_21.out
          obtain ⟨cp21_0, cp21_1, cp21_2, cp21_3, cp21_4, fp21_0, fp21_1, fp21_2, fp21_3, fp21_4⟩ := box5 Xp_21.out; have lp21 := heap_lt Xp_21.out
          have S21 : w.heap.size ≤ w21.heap.size := (by omega)
          go_wp2_with (fail)
          refine bodyPost_ret (v := .tuple #[.agg #[.slice none 0 0, .slice none 0 0, .slice none 0 0, .slice none 0 0, .slice none 0 0], .bool false]) (by simp [results, Tryd.results38, go_sem, cres21_0, cres21_1, cres21_2, cres21_3, cres21_4, lres21, cp21_0, cp21_1, cp21_2, cp21_3, cp21_4, lp21, nrp, npr]) rfl ⟨_, _, _, rfl, (ProgOwn.make (Own.nil _ _ _ _ _) (Own.nil _ _ _ _ _) (Own.nil _ _ _ _ _) (Own.nil _ _ _ _ _) (TTOwn.empty (Own.nil _ _ _ _ _)) : ProgOwn _ _ _ _ ProgD.zero), .inl rfl, (below_setAt (below_setAt (below_setAt (below_setAt (below_setAt B21.out (w.heap.size) 0 (by first | omega | (simp only [szA, szS, szD, World.heap_drewN] at * <;> omega)) (.slice none 0 0)) (w.heap.size) 1 (by first | omega | (simp only [szA, szS, szD, World.heap_drewN] at * <;> omega)) (.slice none 0 0)) (w.heap.size) 2 (by first | omega | (simp only [szA, szS, szD, World.heap_drewN] at * <;> omega)) (.slice none 0 0)) (w.heap.size) 3 (by first | omega | (simp only [szA, szS, szD, World.heap_drewN] at * <;> omega)) (.slice none 0 0)) (w.heap.size) 4 (by first | omega | (simp only [szA, szS, szD, World.heap_drewN] at * <;> omega)) (.slice none 0 0))⟩
        · have HV := Lib.hid hv; clear hv
          go_wp2_with (fail)
          refine (sProgValidO _ c _ (ProgOwn.row (c := c) (hi := 0) (ProgOwn.make Oq0_20.out Oq1_20.out Oq2_20.out Oq3_20.out Oq4_20.out))).mono ?_
          rw [HV.out]
          rintro e w21 ⟨rfl, hb⟩
          have B21 := Lib.hid (Below.trans B20.out (hb.mono (by first | omega | (simp only [szA, szS, szD, World.heap_drewN] at * <;> omega))) : Below w.heap.size w w21)
          have Z21 := hb.size
          have N21 : w20.heap.size ≤ w21.heap.size := (by first | with_reducible exact Z21 | (simp only [szA, szS, szD] at Z21; omega))
          clear Z21
          have Xres_21 := Lib.hid (below_at hb Xres_20.out)
          have Xp_21 := Lib.hid (below_at hb Xp_20.out)
          have Oq0_21 := Lib.hid (Oq0_20.out.kept hb)
          have Oq1_21 := Lib.hid (Oq1_20.out.kept hb)
          have Oq2_21 := Lib.hid (Oq2_20.out.kept hb)
          have Oq3_21 := Lib.hid (Oq3_20.out.kept hb)
          have Oq4_21 := Lib.hid (Oq4_20.out.kept hb)
          have Oz_21 := Lib.hid (Oz_20.out.kept hb)
          clear hb
          obtain ⟨cres21_0, cres21_1, cres21_2, cres21_3, cres21_4, fres21_0, fres21_1, fres21_2, fres21_3, fres21_4⟩ := box5 Xres_21.out; have lres21 := heap_lt Xres_21.out
          obtain ⟨cp21_0, cp21_1, cp21_2, cp21_3, cp21_4, fp21_0, fp21_1, fp21_2, fp21_3, fp21_4⟩ := box5 Xp_21.out; have lp21 := heap_lt Xp_21.out
          have S21 : w.heap.size ≤ w21.heap.size := (by omega)
          go_wp2_with (fail)
          refine (sFormatProg_calls _ c _ (ProgOwn.row (c := c) (hi := 0) (ProgOwn.make Oq0_21.out Oq1_21.out Oq2_21.out Oq3_21.out Oq4_21.out))).mono ?_
          rintro e w22 ⟨s, rfl, hb⟩
          have B22 := Lib.hid (Below.trans B21.out (hb.mono (by first | omega | (simp only [szA, szS, szD, World.heap_drewN] at * <;> omega))) : Below w.heap.size w w22)
          have Z22 := hb.size
          have N22 : w21.heap.size ≤ w22.heap.size := (by first | with_reducible exact Z22 | (simp only [szA, szS, szD] at Z22; omega))
          clear Z22
          have Xres_22 := Lib.hid (below_at hb Xres_21.out)
          have Xp_22 := Lib.hid (below_at hb Xp_21.out)
          have Oq0_22 := Lib.hid (Oq0_21.out.kept hb)
          have Oq1_22 := Lib.hid (Oq1_21.out.kept hb)
          have Oq2_22 := Lib.hid (Oq2_21.out.kept hb)
          have Oq3_22 := Lib.hid (Oq3_21.out.kept hb)
          have Oq4_22 := Lib.hid (Oq4_21.out.kept hb)
          have Oz_22 := Lib.hid (Oz_21.out.kept hb)
          clear hb
          obtain ⟨cres22_0, cres22_1, cres22_2, cres22_3, cres22_4, fres22_0, fres22_1, fres22_2, fres22_3, fres22_4⟩ := box5 Xres_22.out; have lres22 := heap_lt Xres_22.out
          obtain ⟨cp22_0, cp22_1, cp22_2, cp22_3, cp22_4, fp22_0, fp22_1, fp22_2, fp22_3, fp22_4⟩ := box5 Xp_22.out; have lp22 := heap_lt Xp_22.out
          have S22 : w.heap.size ≤ w22.heap.size := (by omega)
          clear cres21_0 cres21_1 cres21_2 cres21_3 cres21_4 fres21_0 fres21_1 fres21_2 fres21_3 fres21_4 cp21_0 cp21_1 cp21_2 cp21_3 cp21_4 fp21_0 fp21_1 fp21_2 fp21_3 fp21_4
          by_cases he : s = text
          · have q1 := str_eq he
            clear he
            go_wp2_with (fail)
            refine bodyPost_ret (v := .tuple #[.agg #[.slice aq0 c.sems.length pq0, .slice aq1 c.groups.length pq1, .slice aq2 c.barriers.length pq2, .slice aq3 c.rooms.length pq3, .slice aq4 c.threads.length pq4], .bool true]) (by simp [results, Tryd.results38, go_sem, cres22_0, cres22_1, cres22_2, cres22_3, cres22_4, lres22, cp22_0, cp22_1, cp22_2, cp22_3, cp22_4, lp22, nrp, npr]) rfl ⟨_, _, _, rfl, ((ProgOwn.make (((((Oq0_22.out.setB (w.heap.size) 0 Xres_22.out (by decide) (.slice aq0 c.sems.length pq0)).setB (w.heap.size) 1 (set_at (a := ⟨w.heap.size, 0, none⟩) Xres_22.out rfl rfl (.slice aq0 c.sems.length pq0)) (by decide) (.slice aq1 c.groups.length pq1)).setB (w.heap.size) 2 (set_at (a := ⟨w.heap.size, 1, none⟩) (set_at (a := ⟨w.heap.size, 0, none⟩) Xres_22.out rfl rfl (.slice aq0 c.sems.length pq0)) rfl rfl (.slice aq1 c.groups.length pq1)) (by decide) (.slice aq2 c.barriers.length pq2)).setB (w.heap.size) 3 (set_at (a := ⟨w.heap.size, 2, none⟩) (set_at (a := ⟨w.heap.size, 1, none⟩) (set_at (a := ⟨w.heap.size, 0, none⟩) Xres_22.out rfl rfl (.slice aq0 c.sems.length pq0)) rfl rfl (.slice aq1 c.groups.length pq1)) rfl rfl (.slice aq2 c.barriers.length pq2)) (by decide) (.slice aq3 c.rooms.length pq3)).setB (w.heap.size) 4 (set_at (a := ⟨w.heap.size, 3, none⟩) (set_at (a := ⟨w.heap.size, 2, none⟩) (set_at (a := ⟨w.heap.size, 1, none⟩) (set_at (a := ⟨w.heap.size, 0, none⟩) Xres_22.out rfl rfl (.slice aq0 c.sems.length pq0)) rfl rfl (.slice aq1 c.groups.length pq1)) rfl rfl (.slice aq2 c.barriers.length pq2)) rfl rfl (.slice aq3 c.rooms.length pq3)) (by decide) (.slice aq4 c.threads.length pq4)) (((((Oq1_22.out.setB (w.heap.size) 0 Xres_22.out (by decide) (.slice aq0 c.sems.length pq0)).setB (w.heap.size) 1 (set_at (a := ⟨w.heap.size, 0, none⟩) Xres_22.out rfl rfl (.slice aq0 c.sems.length pq0)) (by decide) (.slice aq1 c.groups.length pq1)).setB (w.heap.size) 2 (set_at (a := ⟨w.heap.size, 1, none⟩) (set_at (a := ⟨w.heap.size, 0, none⟩) Xres_22.out rfl rfl (.slice aq0 c.sems.length pq0)) rfl rfl (.slice aq1 c.groups.length pq1)) (by decide) (.slice aq2 c.barriers.length pq2)).setB (w.heap.size) 3 (set_at (a := ⟨w.heap.size, 2, none⟩) (set_at (a := ⟨w.heap.size, 1, none⟩) (set_at (a := ⟨w.heap.size, 0, none⟩) Xres_22.out rfl rfl (.slice aq0 c.sems.length pq0)) rfl rfl (.slice aq1 c.groups.length pq1)) rfl rfl (.slice aq2 c.barriers.length pq2)) (by decide) (.slice aq3 c.rooms.length pq3)).setB (w.heap.size) 4 (set_at (a := ⟨w.heap.size, 3, none⟩) (set_at (a := ⟨w.heap.size, 2, none⟩) (set_at (a := ⟨w.heap.size, 1, none⟩) (set_at (a := ⟨w.heap.size, 0, none⟩) Xres_22.out rfl rfl (.slice aq0 c.sems.length pq0)) rfl rfl (.slice aq1 c.groups.length pq1)) rfl rfl (.slice aq2 c.barriers.length pq2)) rfl rfl (.slice aq3 c.rooms.length pq3)) (by decide) (.slice aq4 c.threads.length pq4)) (((((Oq2_22.out.setB (w.heap.size) 0 Xres_22.out (by decide) (.slice aq0 c.sems.length pq0)).setB (w.heap.size) 1 (set_at (a := ⟨w.heap.size, 0, none⟩) Xres_22.out rfl rfl (.slice aq0 c.sems.length pq0)) (by decide) (.slice aq1 c.groups.length pq1)).setB (w.heap.size) 2 (set_at (a := ⟨w.heap.size, 1, none⟩) (set_at (a := ⟨w.heap.size, 0, none⟩) Xres_22.out rfl rfl (.slice aq0 c.sems.length pq0)) rfl rfl (.slice aq1 c.groups.length pq1)) (by decide) (.slice aq2 c.barriers.length pq2)).setB (w.heap.size) 3 (set_at (a := ⟨w.heap.size, 2, none⟩) (set_at (a := ⟨w.heap.size, 1, none⟩) (set_at (a := ⟨w.heap.size, 0, none⟩) Xres_22.out rfl rfl (.slice aq0 c.sems.length pq0)) rfl rfl (.slice aq1 c.groups.length pq1)) rfl rfl (.slice aq2 c.barriers.length pq2)) (by decide) (.slice aq3 c.rooms.length pq3)).setB (w.heap.size) 4 (set_at (a := ⟨w.heap.size, 3, none⟩) (set_at (a := ⟨w.heap.size, 2, none⟩) (set_at (a := ⟨w.heap.size, 1, none⟩) (set_at (a := ⟨w.heap.size, 0, none⟩) Xres_22.out rfl rfl (.slice aq0 c.sems.length pq0)) rfl rfl (.slice aq1 c.groups.length pq1)) rfl rfl (.slice aq2 c.barriers.length pq2)) rfl rfl (.slice aq3 c.rooms.length pq3)) (by decide) (.slice aq4 c.threads.length pq4)) (((((Oq3_22.out.setB (w.heap.size) 0 Xres_22.out (by decide) (.slice aq0 c.sems.length pq0)).setB (w.heap.size) 1 (set_at (a := ⟨w.heap.size, 0, none⟩) Xres_22.out rfl rfl (.slice aq0 c.sems.length pq0)) (by decide) (.slice aq1 c.groups.length pq1)).setB (w.heap.size) 2 (set_at (a := ⟨w.heap.size, 1, none⟩) (set_at (a := ⟨w.heap.size, 0, none⟩) Xres_22.out rfl rfl (.slice aq0 c.sems.length pq0)) rfl rfl (.slice aq1 c.groups.length pq1)) (by decide) (.slice aq2 c.barriers.length pq2)).setB (w.heap.size) 3 (set_at (a := ⟨w.heap.size, 2, none⟩) (set_at (a := ⟨w.heap.size, 1, none⟩) (set_at (a := ⟨w.heap.size, 0, none⟩) Xres_22.out rfl rfl (.slice aq0 c.sems.length pq0)) rfl rfl (.slice aq1 c.groups.length pq1)) rfl rfl (.slice aq2 c.barriers.length pq2)) (by decide) (.slice aq3 c.rooms.length pq3)).setB (w.heap.size) 4 (set_at (a := ⟨w.heap.size, 3, none⟩) (set_at (a := ⟨w.heap.size, 2, none⟩) (set_at (a := ⟨w.heap.size, 1, none⟩) (set_at (a := ⟨w.heap.size, 0, none⟩) Xres_22.out rfl rfl (.slice aq0 c.sems.length pq0)) rfl rfl (.slice aq1 c.groups.length pq1)) rfl rfl (.slice aq2 c.barriers.length pq2)) rfl rfl (.slice aq3 c.rooms.length pq3)) (by decide) (.slice aq4 c.threads.length pq4)) (((((Oq4_22.out.setB (w.heap.size) 0 Xres_22.out (by decide) (.slice aq0 c.sems.length pq0)).setB (w.heap.size) 1 (set_at (a := ⟨w.heap.size, 0, none⟩) Xres_22.out rfl rfl (.slice aq0 c.sems.length pq0)) (by decide) (.slice aq1 c.groups.length pq1)).setB (w.heap.size) 2 (set_at (a := ⟨w.heap.size, 1, none⟩) (set_at (a := ⟨w.heap.size, 0, none⟩) Xres_22.out rfl rfl (.slice aq0 c.sems.length pq0)) rfl rfl (.slice aq1 c.groups.length pq1)) (by decide) (.slice aq2 c.barriers.length pq2)).setB (w.heap.size) 3 (set_at (a := ⟨w.heap.size, 2, none⟩) (set_at (a := ⟨w.heap.size, 1, none⟩) (set_at (a := ⟨w.heap.size, 0, none⟩) Xres_22.out rfl rfl (.slice aq0 c.sems.length pq0)) rfl rfl (.slice aq1 c.groups.length pq1)) rfl rfl (.slice aq2 c.barriers.length pq2)) (by decide) (.slice aq3 c.rooms.length pq3)).setB (w.heap.size) 4 (set_at (a := ⟨w.heap.size, 3, none⟩) (set_at (a := ⟨w.heap.size, 2, none⟩) (set_at (a := ⟨w.heap.size, 1, none⟩) (set_at (a := ⟨w.heap.size, 0, none⟩) Xres_22.out rfl rfl (.slice aq0 c.sems.length pq0)) rfl rfl (.slice aq1 c.groups.length pq1)) rfl rfl (.slice aq2 c.barriers.length pq2)) rfl rfl (.slice aq3 c.rooms.length pq3)) (by decide) (.slice aq4 c.threads.length pq4))) : ProgOwn _ _ _ _ c), .inr (progB_true.1 HV.out), (below_setAt (below_setAt (below_setAt (below_setAt (below_setAt B22.out (w.heap.size) 0 (by first | omega | (simp only [szA, szS, szD, World.heap_drewN] at * <;> omega)) (.slice aq0 c.sems.length pq0)) (w.heap.size) 1 (by first | omega | (simp only [szA, szS, szD, World.heap_drewN] at * <;> omega)) (.slice aq1 c.groups.length pq1)) (w.heap.size) 2 (by first | omega | (simp only [szA, szS, szD, World.heap_drewN] at * <;> omega)) (.slice aq2 c.barriers.length pq2)) (w.heap.size) 3 (by first | omega | (simp only [szA, szS, szD, World.heap_drewN] at * <;> omega)) (.slice aq3 c.rooms.length pq3)) (w.heap.size) 4 (by first | omega | (simp only [szA, szS, szD, World.heap_drewN] at * <;> omega)) (.slice aq4 c.threads.length pq4))⟩
          · have q1 := str_ne he
            clear he
            go_wp2_with (fail)
            refine bodyPost_ret (v := .tuple #[.agg #[.slice none 0 0, .slice none 0 0, .slice none 0 0, .slice none 0 0, .slice none 0 0], .bool false]) (by simp [results, Tryd.results38, go_sem, cres22_0, cres22_1, cres22_2, cres22_3, cres22_4, lres22, cp22_0, cp22_1, cp22_2, cp22_3, cp22_4, lp22, nrp, npr]) rfl ⟨_, _, _, rfl, (ProgOwn.make (Own.nil _ _ _ _ _) (Own.nil _ _ _ _ _) (Own.nil _ _ _ _ _) (Own.nil _ _ _ _ _) (TTOwn.empty (Own.nil _ _ _ _ _)) : ProgOwn _ _ _ _ ProgD.zero), .inl rfl, (below_setAt (below_setAt (below_setAt (below_setAt (below_setAt B22.out (w.heap.size) 0 (by first | omega | (simp only [szA, szS, szD, World.heap_drewN] at * <;> omega)) (.slice none 0 0)) (w.heap.size) 1 (by first | omega | (simp only [szA, szS, szD, World.heap_drewN] at * <;> omega)) (.slice none 0 0)) (w.heap.size) 2 (by first | omega | (simp only [szA, szS, szD, World.heap_drewN] at * <;> omega)) (.slice none 0 0)) (w.heap.size) 3 (by first | omega | (simp only [szA, szS, szD, World.heap_drewN] at * <;> omega)) (.slice none 0 0)) (w.heap.size) 4 (by first | omega | (simp only [szA, szS, szD, World.heap_drewN] at * <;> omega)) (.slice none 0 0))⟩
end Go.Proofs.YthbnbofoefdneaaDoor
