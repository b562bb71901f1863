/- The struct Prog: its plain twin, what reads as it, the exact laws' helpers on it (made by gen_prog.py). -/
import Derived.Test.YtobkammimkgnkaaG1
import Derived.Test.YtobkammimkgnkaaElOp
namespace Go.Proofs.Ytobkammimkgnkaa
open Go.RowKit
set_option linter.unusedSimpArgs false
set_option linter.unusedVariables false
structure ProgD where
  sems : List Int
  groups : List Int
  barriers : List Int
  rooms : List Int
  threads : List (List OpT)
  deriving DecidableEq
def ProgD.zero : ProgD := ⟨[], [], [], [], []⟩
/-- In w the value v reads as c. -/
def ProgRow (w : World) (v : Value) (c : ProgD) : Prop := ∃ a0 p0 a1 p1 a2 p2 a3 p3 a4 p4, v = .agg #[.slice a0 c.sems.length p0, .slice a1 c.groups.length p1, .slice a2 c.barriers.length p2, .slice a3 c.rooms.length p3, .slice a4 c.threads.length p4] ∧ IRow w (.slice a0 c.sems.length p0) c.sems ∧ IRow w (.slice a1 c.groups.length p1) c.groups ∧ IRow w (.slice a2 c.barriers.length p2) c.barriers ∧ IRow w (.slice a3 c.rooms.length p3) c.rooms ∧ TTRow w (.slice a4 c.threads.length p4) c.threads
theorem ProgRow.below {w w' : World} {v : Value} {c : ProgD} (h : ProgRow w v c) (hb : Below w.heap.size w w') : ProgRow w' v c := by
  obtain ⟨a0, p0, a1, p1, a2, p2, a3, p3, a4, p4, rfl, h0, h1, h2, h3, h4⟩ := h
  exact ⟨_, _, _, _, _, _, _, _, _, _, rfl, Row.below h0 hb, Row.below h1 hb, Row.below h2 hb, Row.below h3 hb, h4.below hb⟩
theorem TTOwn.kept {lo : Nat} {w w' : World} {v : Value} {ts : List (List OpT)} (h : TTOwn lo w v ts) (hb : Below w.heap.size w w') : TTOwn lo w' v ts := by
  obtain ⟨us, h1, h2⟩ := h; exact ⟨us, h1.kept hb, h2.kept hb⟩
/-- .. and its slices are the call's own: their blocks lie from lo on. -/
def ProgOwn (lo _hi : Nat) (w : World) (v : Value) (c : ProgD) : Prop := ∃ a0 p0 a1 p1 a2 p2 a3 p3 a4 p4, v = .agg #[.slice a0 c.sems.length p0, .slice a1 c.groups.length p1, .slice a2 c.barriers.length p2, .slice a3 c.rooms.length p3, .slice a4 c.threads.length p4] ∧ Own lo 3 1 encI w (.slice a0 c.sems.length p0) c.sems ∧ Own lo 3 1 encI w (.slice a1 c.groups.length p1) c.groups ∧ Own lo 3 1 encI w (.slice a2 c.barriers.length p2) c.barriers ∧ Own lo 3 1 encI w (.slice a3 c.rooms.length p3) c.rooms ∧ TTOwn lo w (.slice a4 c.threads.length p4) c.threads
theorem ProgOwn.row {lo hi : Nat} {w : World} {v : Value} {c : ProgD} (h : ProgOwn lo hi w v c) : ProgRow w v c := by
  obtain ⟨a0, p0, a1, p1, a2, p2, a3, p3, a4, p4, rfl, h0, h1, h2, h3, h4⟩ := h
  exact ⟨_, _, _, _, _, _, _, _, _, _, rfl, h0.row encI_len, h1.row encI_len, h2.row encI_len, h3.row encI_len, h4.row⟩
theorem ProgOwn.kept {lo hi : Nat} {w w' : World} {v : Value} {c : ProgD} (h : ProgOwn lo hi w v c) (hb : Below w.heap.size w w') : ProgOwn lo hi w' v c := by
  obtain ⟨a0, p0, a1, p1, a2, p2, a3, p3, a4, p4, rfl, h0, h1, h2, h3, h4⟩ := h
  exact ⟨_, _, _, _, _, _, _, _, _, _, rfl, h0.kept hb, h1.kept hb, h2.kept hb, h3.kept hb, h4.kept hb⟩
theorem ProgOwn.mono {lo hi lo' hi' : Nat} {w : World} {v : Value} {c : ProgD} (h : ProgOwn lo hi w v c) (hl : lo' ≤ lo) (_hh : hi ≤ hi') : ProgOwn lo' hi' w v c := by
  obtain ⟨a0, p0, a1, p1, a2, p2, a3, p3, a4, p4, rfl, h0, h1, h2, h3, h4⟩ := h
  exact ⟨_, _, _, _, _, _, _, _, _, _, rfl, h0.mono hl, h1.mono hl, h2.mono hl, h3.mono hl, h4.mono hl⟩
theorem ProgOwn.alloc {lo hi : Nat} {w : World} {v : Value} {c : ProgD} (h : ProgOwn lo hi w v c) (o : Obj) : ProgOwn lo hi (w.alloc o) v c := h.kept ((Below.refl _ _).alloc (Nat.le_refl _) o)
theorem ProgOwn.drew {lo hi : Nat} {w : World} {v : Value} {c : ProgD} (h : ProgOwn lo hi w v c) : ProgOwn lo hi w.drew v c := h
set_option maxHeartbeats 1600000 in
theorem szProg_calls (v : Value) (c : ProgD) (left : Int) (w : World) (h : ProgRow w v c) (h0 : 0 ≤ left) (h1 : left ≤ 1048576) :
    Calls Try.prog 12 #[v, .int .i64 left] w fun e w' => e = .returned (.int .i64 (szF left (c.sems.length + c.groups.length + c.barriers.length + c.rooms.length + ttLen c.threads))) ∧ Below w.heap.size w w' := by
  obtain ⟨a0, p0, a1, p1, a2, p2, a3, p3, a4, p4, rfl, r0, r1, r2, r3, r4⟩ := h
  have n0 : c.sems.length ≤ 9223372036854775807 := by obtain ⟨_, _, _, h2, h3, _⟩ := r0; omega
  have n1 : c.groups.length ≤ 9223372036854775807 := by obtain ⟨_, _, _, h2, h3, _⟩ := r1; omega
  have n2 : c.barriers.length ≤ 9223372036854775807 := by obtain ⟨_, _, _, h2, h3, _⟩ := r2; omega
  have n3 : c.rooms.length ≤ 9223372036854775807 := by obtain ⟨_, _, _, h2, h3, _⟩ := r3; omega
  clear r0 r1 r2 r3
  have R4 := Lib.hid r4; clear r4
  have hb : Below w.heap.size w (w.alloc (.cells #[.slice a0 c.sems.length p0, .slice a1 c.groups.length p1, .slice a2 c.barriers.length p2, .slice a3 c.rooms.length p3, .slice a4 c.threads.length p4] 25)) := (Below.refl _ _).alloc (Nat.le_refl _) _
  have HB := Lib.hid hb; clear hb
  have X0 := Lib.hid (heap_at w (.cells #[.slice a0 c.sems.length p0, .slice a1 c.groups.length p1, .slice a2 c.barriers.length p2, .slice a3 c.rooms.length p3, .slice a4 c.threads.length p4] 25))
  go_enter Try.func12, Try.ntmps12
  go_wp2_with (fail)
  refine (szIntS_calls a0 c.sems.length p0 (left) _ n0 (by omega) (by omega)).mono ?_
  rintro e w' ⟨rfl, rfl⟩
  by_cases g0 : (c.sems.length : Int) ≤ left
  · rw [szF_pos g0]
    go_wp2_with (fail)
    refine (szIntS_calls a1 c.groups.length p1 (left - (c.sems.length : Int)) _ n1 (by omega) (by omega)).mono ?_
    rintro e w' ⟨rfl, rfl⟩
    by_cases g1 : (c.groups.length : Int) ≤ left - (c.sems.length : Int)
    · rw [szF_pos g1]
      go_wp2_with (fail)
      refine (szIntS_calls a2 c.barriers.length p2 (left - (c.sems.length : Int) - (c.groups.length : Int)) _ n2 (by omega) (by omega)).mono ?_
      rintro e w' ⟨rfl, rfl⟩
      by_cases g2 : (c.barriers.length : Int) ≤ left - (c.sems.length : Int) - (c.groups.length : Int)
      · rw [szF_pos g2]
        go_wp2_with (fail)
        refine (szIntS_calls a3 c.rooms.length p3 (left - (c.sems.length : Int) - (c.groups.length : Int) - (c.barriers.length : Int)) _ n3 (by omega) (by omega)).mono ?_
        rintro e w' ⟨rfl, rfl⟩
        by_cases g3 : (c.rooms.length : Int) ≤ left - (c.sems.length : Int) - (c.groups.length : Int) - (c.barriers.length : Int)
        · rw [szF_pos g3]
          go_wp2_with (fail)
          refine (szOpSS_calls _ c.threads (left - (c.sems.length : Int) - (c.groups.length : Int) - (c.barriers.length : Int) - (c.rooms.length : Int)) _ (TTRow.below R4.out HB.out) (by omega) (by omega)).mono ?_
          rintro e w1 ⟨rfl, hb⟩
          have B1 := Lib.hid (HB.out.trans (hb.mono HB.out.size)); have X1 := Lib.hid (below_at hb X0.out); clear hb
          by_cases g4 : ((ttLen c.threads : Nat) : Int) ≤ left - (c.sems.length : Int) - (c.groups.length : Int) - (c.barriers.length : Int) - (c.rooms.length : Int)
          · rw [szF_pos g4]
            go_wp2
            go_ret
            exact ⟨ret_int (by rw [szF_pos (by omega)] <;> omega), B1.out⟩
          · rw [szF_neg g4]
            go_wp2
            go_ret
            exact ⟨ret_int (by rw [szF_neg (by omega)]), B1.out⟩
        · rw [szF_neg g3]
          go_wp2
          go_ret
          exact ⟨ret_int (by rw [szF_neg (by omega)]), HB.out⟩
      · rw [szF_neg g2]
        go_wp2
        go_ret
        exact ⟨ret_int (by rw [szF_neg (by omega)]), HB.out⟩
    · rw [szF_neg g1]
      go_wp2
      go_ret
      exact ⟨ret_int (by rw [szF_neg (by omega)]), HB.out⟩
  · rw [szF_neg g0]
    go_wp2
    go_ret
    exact ⟨ret_int (by rw [szF_neg (by omega)]), HB.out⟩
set_option maxHeartbeats 3200000 in
theorem toProg_calls (v : Value) (c : ProgD) (w : World) (h : ProgRow w v c) (hn : c.sems.length + c.groups.length + c.barriers.length + c.rooms.length + ttLen c.threads ≤ 1048576) :
    Calls Try.prog 14 #[v] w fun e w' => ∃ v', e = .returned v' ∧ ProgOwn w.heap.size w'.heap.size w' v' c ∧ Below w.heap.size w w' := by
  obtain ⟨a0, p0, a1, p1, a2, p2, a3, p3, a4, p4, rfl, r0, r1, r2, r3, r4⟩ := h
  have R0 := Lib.hid r0; clear r0
  have R1 := Lib.hid r1; clear r1
  have R2 := Lib.hid r2; clear r2
  have R3 := Lib.hid r3; clear r3
  have R4 := Lib.hid r4; clear r4
  go_enter Try.func14, Try.ntmps14
  go_wp2_with (fail)
  refine (toIntS_calls _ c.sems _ (Row.below R0.out (Below.alloc (Below.alloc (Below.alloc (Below.refl _ _) (by first | omega | (simp only [szA, szS, szD, World.heap_drewN] at * <;> omega)) _) (by first | omega | (simp only [szA, szS, szD, World.heap_drewN] at * <;> omega)) _) (by first | omega | (simp only [szA, szS, szD, World.heap_drewN] at * <;> omega)) _)) (by omega)).mono ?_
  rintro e w1 ⟨v0, rfl, ho_n0, hb⟩
  have B1 := Lib.hid (Below.trans (Below.alloc (Below.alloc (Below.alloc (Below.refl _ _) (by first | omega | (simp only [szA, szS, szD, World.heap_drewN] at * <;> omega)) _) (by first | omega | (simp only [szA, szS, szD, World.heap_drewN] at * <;> omega)) _) (by first | omega | (simp only [szA, szS, szD, World.heap_drewN] at * <;> omega)) _) (hb.mono (by first | omega | (simp only [szA, szS, szD, World.heap_drewN] at * <;> omega))) : Below w.heap.size w w1)
  have Z1 := hb.size
  have N1 : w.heap.size + 3 ≤ w1.heap.size := (by first | with_reducible exact Z1 | (simp only [szA, szS, szD] at Z1; omega))
  clear Z1
  have Xp_1 : Hid (w1.heap[w.heap.size]? = some (.cells #[.slice a0 c.sems.length p0, .slice a1 c.groups.length p1, .slice a2 c.barriers.length p2, .slice a3 c.rooms.length p3, .slice a4 c.threads.length p4] 25 (0, 0))) := below_at hb (heap_up (heap_up (heap_at' (n := w.heap.size) (by first | omega | (simp only [szA, szS, szD, World.heap_drewN] at * <;> omega)))))
  have Xres_1 : Hid (w1.heap[w.heap.size + 1]? = some (.cells #[.slice none 0 0, .slice none 0 0, .slice none 0 0, .slice none 0 0, .slice none 0 0] 30 (0, 0))) := below_at hb (heap_up (heap_at' (n := w.heap.size + 1) (by first | omega | (simp only [szA, szS, szD, World.heap_drewN] at * <;> omega))))
  have Xout_1 : Hid (w1.heap[w.heap.size + 2]? = some (.cells #[.slice none 0 0, .slice none 0 0, .slice none 0 0, .slice none 0 0, .slice none 0 0] 30 (0, 0))) := below_at hb (heap_at' (n := w.heap.size + 2) (by first | omega | (simp only [szA, szS, szD, World.heap_drewN] at * <;> omega)))
  have On0_1 := Lib.hid (Own.mono (base' := w.heap.size) ho_n0 (by first | omega | (simp only [szA, szS, szD, World.heap_drewN] at * <;> omega))); obtain ⟨an0, pn0, rfl⟩ := ho_n0.form; clear ho_n0
  clear hb
  obtain ⟨cp1_0, cp1_1, cp1_2, cp1_3, cp1_4, fp1_0, fp1_1, fp1_2, fp1_3, fp1_4⟩ := box5 Xp_1.out; have lp1 := heap_lt Xp_1.out
  obtain ⟨cres1_0, cres1_1, cres1_2, cres1_3, cres1_4, fres1_0, fres1_1, fres1_2, fres1_3, fres1_4⟩ := box5 Xres_1.out; have lres1 := heap_lt Xres_1.out
  obtain ⟨cout1_0, cout1_1, cout1_2, cout1_3, cout1_4, fout1_0, fout1_1, fout1_2, fout1_3, fout1_4⟩ := box5 Xout_1.out; have lout1 := heap_lt Xout_1.out
  have S1 : w.heap.size ≤ w1.heap.size := (by omega)
  go_wp2_with (fail)
  refine (toIntS_calls _ c.groups _ (Row.below R1.out (below_setAt B1.out (w.heap.size + 2) 0 (by first | omega | (simp only [szA, szS, szD, World.heap_drewN] at * <;> omega)) (.slice an0 c.sems.length pn0))) (by omega)).mono ?_
  rintro e w2 ⟨v1, rfl, ho_n1, hb⟩
  have B2 := Lib.hid (Below.trans (below_setAt B1.out (w.heap.size + 2) 0 (by first | omega | (simp only [szA, szS, szD, World.heap_drewN] at * <;> omega)) (.slice an0 c.sems.length pn0)) (hb.mono (by first | omega | (simp only [szA, szS, szD, World.heap_drewN] at * <;> omega))) : Below w.heap.size w w2)
  have Z2 := hb.size
  have N2 : w1.heap.size ≤ w2.heap.size := (by first | with_reducible exact Z2 | (simp only [szA, szS, szD] at Z2; omega))
  clear Z2
  have Xp_2 := Lib.hid (below_at hb (set_off (a := ⟨w.heap.size + 2, 0, none⟩) Xp_1.out (by first | omega | (simp only [szA, szS, szD, World.heap_drewN] at * <;> omega)) (.slice an0 c.sems.length pn0)))
  have Xres_2 := Lib.hid (below_at hb (set_off (a := ⟨w.heap.size + 2, 0, none⟩) Xres_1.out (by first | omega | (simp only [szA, szS, szD, World.heap_drewN] at * <;> omega)) (.slice an0 c.sems.length pn0)))
  have Xout_2 := Lib.hid (below_at hb (set_at (a := ⟨w.heap.size + 2, 0, none⟩) Xout_1.out rfl rfl (.slice an0 c.sems.length pn0)))
  have On0_2 := Lib.hid ((On0_1.out.setB (w.heap.size + 2) 0 Xout_1.out (by decide) (.slice an0 c.sems.length pn0)).kept hb)
  have On1_2 := Lib.hid (Own.mono (base' := w.heap.size) ho_n1 (by first | omega | (simp only [szA, szS, szD, World.heap_drewN] at * <;> omega))); obtain ⟨an1, pn1, rfl⟩ := ho_n1.form; clear ho_n1
  clear hb
  obtain ⟨cp2_0, cp2_1, cp2_2, cp2_3, cp2_4, fp2_0, fp2_1, fp2_2, fp2_3, fp2_4⟩ := box5 Xp_2.out; have lp2 := heap_lt Xp_2.out
  obtain ⟨cres2_0, cres2_1, cres2_2, cres2_3, cres2_4, fres2_0, fres2_1, fres2_2, fres2_3, fres2_4⟩ := box5 Xres_2.out; have lres2 := heap_lt Xres_2.out
  obtain ⟨cout2_0, cout2_1, cout2_2, cout2_3, cout2_4, fout2_0, fout2_1, fout2_2, fout2_3, fout2_4⟩ := box5 Xout_2.out; have lout2 := heap_lt Xout_2.out
  have S2 : w.heap.size ≤ w2.heap.size := (by omega)
  clear cp1_0 cp1_1 cp1_2 cp1_3 cp1_4 fp1_0 fp1_1 fp1_2 fp1_3 fp1_4 cres1_0 cres1_1 cres1_2 cres1_3 cres1_4 fres1_0 fres1_1 fres1_2 fres1_3 fres1_4 cout1_0 cout1_1 cout1_2 cout1_3 cout1_4 fout1_0 fout1_1 fout1_2 fout1_3 fout1_4
  go_wp2_with (fail)
  refine (toIntS_calls _ c.barriers _ (Row.below R2.out (below_setAt B2.out (w.heap.size + 2) 1 (by first | omega | (simp only [szA, szS, szD, World.heap_drewN] at * <;> omega)) (.slice an1 c.groups.length pn1))) (by omega)).mono ?_
  rintro e w3 ⟨v2, rfl, ho_n2, hb⟩
  have B3 := Lib.hid (Below.trans (below_setAt B2.out (w.heap.size + 2) 1 (by first | omega | (simp only [szA, szS, szD, World.heap_drewN] at * <;> omega)) (.slice an1 c.groups.length pn1)) (hb.mono (by first | omega | (simp only [szA, szS, szD, World.heap_drewN] at * <;> omega))) : Below w.heap.size w w3)
  have Z3 := hb.size
  have N3 : w2.heap.size ≤ w3.heap.size := (by first | with_reducible exact Z3 | (simp only [szA, szS, szD] at Z3; omega))
  clear Z3
  have Xp_3 := Lib.hid (below_at hb (set_off (a := ⟨w.heap.size + 2, 1, none⟩) Xp_2.out (by first | omega | (simp only [szA, szS, szD, World.heap_drewN] at * <;> omega)) (.slice an1 c.groups.length pn1)))
  have Xres_3 := Lib.hid (below_at hb (set_off (a := ⟨w.heap.size + 2, 1, none⟩) Xres_2.out (by first | omega | (simp only [szA, szS, szD, World.heap_drewN] at * <;> omega)) (.slice an1 c.groups.length pn1)))
  have Xout_3 := Lib.hid (below_at hb (set_at (a := ⟨w.heap.size + 2, 1, none⟩) Xout_2.out rfl rfl (.slice an1 c.groups.length pn1)))
  have On0_3 := Lib.hid ((On0_2.out.setB (w.heap.size + 2) 1 Xout_2.out (by decide) (.slice an1 c.groups.length pn1)).kept hb)
  have On1_3 := Lib.hid ((On1_2.out.setB (w.heap.size + 2) 1 Xout_2.out (by decide) (.slice an1 c.groups.length pn1)).kept hb)
  have On2_3 := Lib.hid (Own.mono (base' := w.heap.size) ho_n2 (by first | omega | (simp only [szA, szS, szD, World.heap_drewN] at * <;> omega))); obtain ⟨an2, pn2, rfl⟩ := ho_n2.form; clear ho_n2
  clear hb
  obtain ⟨cp3_0, cp3_1, cp3_2, cp3_3, cp3_4, fp3_0, fp3_1, fp3_2, fp3_3, fp3_4⟩ := box5 Xp_3.out; have lp3 := heap_lt Xp_3.out
  obtain ⟨cres3_0, cres3_1, cres3_2, cres3_3, cres3_4, fres3_0, fres3_1, fres3_2, fres3_3, fres3_4⟩ := box5 Xres_3.out; have lres3 := heap_lt Xres_3.out
  obtain ⟨cout3_0, cout3_1, cout3_2, cout3_3, cout3_4, fout3_0, fout3_1, fout3_2, fout3_3, fout3_4⟩ := box5 Xout_3.out; have lout3 := heap_lt Xout_3.out
  have S3 : w.heap.size ≤ w3.heap.size := (by omega)
  clear cp2_0 cp2_1 cp2_2 cp2_3 cp2_4 fp2_0 fp2_1 fp2_2 fp2_3 fp2_4 cres2_0 cres2_1 cres2_2 cres2_3 cres2_4 fres2_0 fres2_1 fres2_2 fres2_3 fres2_4 cout2_0 cout2_1 cout2_2 cout2_3 cout2_4 fout2_0 fout2_1 fout2_2 fout2_3 fout2_4
  go_wp2_with (fail)
  refine (toIntS_calls _ c.rooms _ (Row.below R3.out (below_setAt B3.out (w.heap.size + 2) 2 (by first | omega | (simp only [szA, szS, szD, World.heap_drewN] at * <;> omega)) (.slice an2 c.barriers.length pn2))) (by omega)).mono ?_
  rintro e w4 ⟨v3, rfl, ho_n3, hb⟩
  have B4 := Lib.hid (Below.trans (below_setAt B3.out (w.heap.size + 2) 2 (by first | omega | (simp only [szA, szS, szD, World.heap_drewN] at * <;> omega)) (.slice an2 c.barriers.length pn2)) (hb.mono (by first | omega | (simp only [szA, szS, szD, World.heap_drewN] at * <;> omega))) : Below w.heap.size w w4)
  have Z4 := hb.size
  have N4 : w3.heap.size ≤ w4.heap.size := (by first | with_reducible exact Z4 | (simp only [szA, szS, szD] at Z4; omega))
  clear Z4
  have Xp_4 := Lib.hid (below_at hb (set_off (a := ⟨w.heap.size + 2, 2, none⟩) Xp_3.out (by first | omega | (simp only [szA, szS, szD, World.heap_drewN] at * <;> omega)) (.slice an2 c.barriers.length pn2)))
  have Xres_4 := Lib.hid (below_at hb (set_off (a := ⟨w.heap.size + 2, 2, none⟩) Xres_3.out (by first | omega | (simp only [szA, szS, szD, World.heap_drewN] at * <;> omega)) (.slice an2 c.barriers.length pn2)))
  have Xout_4 := Lib.hid (below_at hb (set_at (a := ⟨w.heap.size + 2, 2, none⟩) Xout_3.out rfl rfl (.slice an2 c.barriers.length pn2)))
  have On0_4 := Lib.hid ((On0_3.out.setB (w.heap.size + 2) 2 Xout_3.out (by decide) (.slice an2 c.barriers.length pn2)).kept hb)
  have On1_4 := Lib.hid ((On1_3.out.setB (w.heap.size + 2) 2 Xout_3.out (by decide) (.slice an2 c.barriers.length pn2)).kept hb)
  have On2_4 := Lib.hid ((On2_3.out.setB (w.heap.size + 2) 2 Xout_3.out (by decide) (.slice an2 c.barriers.length pn2)).kept hb)
  have On3_4 := Lib.hid (Own.mono (base' := w.heap.size) ho_n3 (by first | omega | (simp only [szA, szS, szD, World.heap_drewN] at * <;> omega))); obtain ⟨an3, pn3, rfl⟩ := ho_n3.form; clear ho_n3
  clear hb
  obtain ⟨cp4_0, cp4_1, cp4_2, cp4_3, cp4_4, fp4_0, fp4_1, fp4_2, fp4_3, fp4_4⟩ := box5 Xp_4.out; have lp4 := heap_lt Xp_4.out
  obtain ⟨cres4_0, cres4_1, cres4_2, cres4_3, cres4_4, fres4_0, fres4_1, fres4_2, fres4_3, fres4_4⟩ := box5 Xres_4.out; have lres4 := heap_lt Xres_4.out
  obtain ⟨cout4_0, cout4_1, cout4_2, cout4_3, cout4_4, fout4_0, fout4_1, fout4_2, fout4_3, fout4_4⟩ := box5 Xout_4.out; have lout4 := heap_lt Xout_4.out
  have S4 : w.heap.size ≤ w4.heap.size := (by omega)
  clear cp3_0 cp3_1 cp3_2 cp3_3 cp3_4 fp3_0 fp3_1 fp3_2 fp3_3 fp3_4 cres3_0 cres3_1 cres3_2 cres3_3 cres3_4 fres3_0 fres3_1 fres3_2 fres3_3 fres3_4 cout3_0 cout3_1 cout3_2 cout3_3 cout3_4 fout3_0 fout3_1 fout3_2 fout3_3 fout3_4
  go_wp2_with (fail)
  refine (toOpSS_calls _ c.threads _ (TTRow.below R4.out (below_setAt B4.out (w.heap.size + 2) 3 (by first | omega | (simp only [szA, szS, szD, World.heap_drewN] at * <;> omega)) (.slice an3 c.rooms.length pn3))) (by omega)).mono ?_
  rintro e w5 ⟨v4, rfl, ht, hb⟩
  have HT := Lib.hid (ht.mono (lo' := w4.heap.size) (by first | omega | (simp only [szA, szS, szD, World.heap_drewN] at * <;> omega))); obtain ⟨an4, pn4, rfl⟩ := ht.form; clear ht
  have B5 := Lib.hid (Below.trans (below_setAt B4.out (w.heap.size + 2) 3 (by first | omega | (simp only [szA, szS, szD, World.heap_drewN] at * <;> omega)) (.slice an3 c.rooms.length pn3)) (hb.mono (by first | omega | (simp only [szA, szS, szD, World.heap_drewN] at * <;> omega))) : Below w.heap.size w w5)
  have Z5 := hb.size
  have N5 : w4.heap.size ≤ w5.heap.size := (by first | with_reducible exact Z5 | (simp only [szA, szS, szD] at Z5; omega))
  clear Z5
  have Xp_5 := Lib.hid (below_at hb (set_off (a := ⟨w.heap.size + 2, 3, none⟩) Xp_4.out (by first | omega | (simp only [szA, szS, szD, World.heap_drewN] at * <;> omega)) (.slice an3 c.rooms.length pn3)))
  have Xres_5 := Lib.hid (below_at hb (set_off (a := ⟨w.heap.size + 2, 3, none⟩) Xres_4.out (by first | omega | (simp only [szA, szS, szD, World.heap_drewN] at * <;> omega)) (.slice an3 c.rooms.length pn3)))
  have Xout_5 := Lib.hid (below_at hb (set_at (a := ⟨w.heap.size + 2, 3, none⟩) Xout_4.out rfl rfl (.slice an3 c.rooms.length pn3)))
  have On0_5 := Lib.hid ((On0_4.out.setB (w.heap.size + 2) 3 Xout_4.out (by decide) (.slice an3 c.rooms.length pn3)).kept hb)
  have On1_5 := Lib.hid ((On1_4.out.setB (w.heap.size + 2) 3 Xout_4.out (by decide) (.slice an3 c.rooms.length pn3)).kept hb)
  have On2_5 := Lib.hid ((On2_4.out.setB (w.heap.size + 2) 3 Xout_4.out (by decide) (.slice an3 c.rooms.length pn3)).kept hb)
  have On3_5 := Lib.hid ((On3_4.out.setB (w.heap.size + 2) 3 Xout_4.out (by decide) (.slice an3 c.rooms.length pn3)).kept hb)
  clear hb
  obtain ⟨cp5_0, cp5_1, cp5_2, cp5_3, cp5_4, fp5_0, fp5_1, fp5_2, fp5_3, fp5_4⟩ := box5 Xp_5.out; have lp5 := heap_lt Xp_5.out
  obtain ⟨cres5_0, cres5_1, cres5_2, cres5_3, cres5_4, fres5_0, fres5_1, fres5_2, fres5_3, fres5_4⟩ := box5 Xres_5.out; have lres5 := heap_lt Xres_5.out
  obtain ⟨cout5_0, cout5_1, cout5_2, cout5_3, cout5_4, fout5_0, fout5_1, fout5_2, fout5_3, fout5_4⟩ := box5 Xout_5.out; have lout5 := heap_lt Xout_5.out
  have S5 : w.heap.size ≤ w5.heap.size := (by omega)
  clear cp4_0 cp4_1 cp4_2 cp4_3 cp4_4 fp4_0 fp4_1 fp4_2 fp4_3 fp4_4 cres4_0 cres4_1 cres4_2 cres4_3 cres4_4 fres4_0 fres4_1 fres4_2 fres4_3 fres4_4 cout4_0 cout4_1 cout4_2 cout4_3 cout4_4 fout4_0 fout4_1 fout4_2 fout4_3 fout4_4
  have n1 : w.heap.size + 1 ≠ w.heap.size + 2 := by omega
  have n2 := n1.symm
  go_wp2_with (fail)
  refine bodyPost_ret (v := .agg #[.slice an0 c.sems.length pn0, .slice an1 c.groups.length pn1, .slice an2 c.barriers.length pn2, .slice an3 c.rooms.length pn3, .slice an4 c.threads.length pn4]) (by simp [results, Try.results14, go_sem, cres5_0, cres5_1, cres5_2, cres5_3, cres5_4, lres5, cout5_0, cout5_1, cout5_2, cout5_3, cout5_4, lout5, n1, n2]) rfl ⟨_, rfl, ⟨_, _, _, _, _, _, _, _, _, _, rfl, ((((((On0_5.out.setB (w.heap.size + 2) 4 Xout_5.out (by decide) (.slice an4 c.threads.length pn4)).setB (w.heap.size + 1) 0 (set_off (a := ⟨w.heap.size + 2, 4, none⟩) Xres_5.out (by first | omega | (simp only [szA, szS, szD, World.heap_drewN] at * <;> omega)) (.slice an4 c.threads.length pn4)) (by decide) (.slice an0 c.sems.length pn0)).setB (w.heap.size + 1) 1 (set_at (a := ⟨w.heap.size + 1, 0, none⟩) (set_off (a := ⟨w.heap.size + 2, 4, none⟩) Xres_5.out (by first | omega | (simp only [szA, szS, szD, World.heap_drewN] at * <;> omega)) (.slice an4 c.threads.length pn4)) rfl rfl (.slice an0 c.sems.length pn0)) (by decide) (.slice an1 c.groups.length pn1)).setB (w.heap.size + 1) 2 (set_at (a := ⟨w.heap.size + 1, 1, none⟩) (set_at (a := ⟨w.heap.size + 1, 0, none⟩) (set_off (a := ⟨w.heap.size + 2, 4, none⟩) Xres_5.out (by first | omega | (simp only [szA, szS, szD, World.heap_drewN] at * <;> omega)) (.slice an4 c.threads.length pn4)) rfl rfl (.slice an0 c.sems.length pn0)) rfl rfl (.slice an1 c.groups.length pn1)) (by decide) (.slice an2 c.barriers.length pn2)).setB (w.heap.size + 1) 3 (set_at (a := ⟨w.heap.size + 1, 2, none⟩) (set_at (a := ⟨w.heap.size + 1, 1, none⟩) (set_at (a := ⟨w.heap.size + 1, 0, none⟩) (set_off (a := ⟨w.heap.size + 2, 4, none⟩) Xres_5.out (by first | omega | (simp only [szA, szS, szD, World.heap_drewN] at * <;> omega)) (.slice an4 c.threads.length pn4)) rfl rfl (.slice an0 c.sems.length pn0)) rfl rfl (.slice an1 c.groups.length pn1)) rfl rfl (.slice an2 c.barriers.length pn2)) (by decide) (.slice an3 c.rooms.length pn3)).setB (w.heap.size + 1) 4 (set_at (a := ⟨w.heap.size + 1, 3, none⟩) (set_at (a := ⟨w.heap.size + 1, 2, none⟩) (set_at (a := ⟨w.heap.size + 1, 1, none⟩) (set_at (a := ⟨w.heap.size + 1, 0, none⟩) (set_off (a := ⟨w.heap.size + 2, 4, none⟩) Xres_5.out (by first | omega | (simp only [szA, szS, szD, World.heap_drewN] at * <;> omega)) (.slice an4 c.threads.length pn4)) rfl rfl (.slice an0 c.sems.length pn0)) rfl rfl (.slice an1 c.groups.length pn1)) rfl rfl (.slice an2 c.barriers.length pn2)) rfl rfl (.slice an3 c.rooms.length pn3)) (by decide) (.slice an4 c.threads.length pn4)).mono (by first | omega | (simp only [szA, szS, szD, World.heap_drewN] at * <;> omega)), ((((((On1_5.out.setB (w.heap.size + 2) 4 Xout_5.out (by decide) (.slice an4 c.threads.length pn4)).setB (w.heap.size + 1) 0 (set_off (a := ⟨w.heap.size + 2, 4, none⟩) Xres_5.out (by first | omega | (simp only [szA, szS, szD, World.heap_drewN] at * <;> omega)) (.slice an4 c.threads.length pn4)) (by decide) (.slice an0 c.sems.length pn0)).setB (w.heap.size + 1) 1 (set_at (a := ⟨w.heap.size + 1, 0, none⟩) (set_off (a := ⟨w.heap.size + 2, 4, none⟩) Xres_5.out (by first | omega | (simp only [szA, szS, szD, World.heap_drewN] at * <;> omega)) (.slice an4 c.threads.length pn4)) rfl rfl (.slice an0 c.sems.length pn0)) (by decide) (.slice an1 c.groups.length pn1)).setB (w.heap.size + 1) 2 (set_at (a := ⟨w.heap.size + 1, 1, none⟩) (set_at (a := ⟨w.heap.size + 1, 0, none⟩) (set_off (a := ⟨w.heap.size + 2, 4, none⟩) Xres_5.out (by first | omega | (simp only [szA, szS, szD, World.heap_drewN] at * <;> omega)) (.slice an4 c.threads.length pn4)) rfl rfl (.slice an0 c.sems.length pn0)) rfl rfl (.slice an1 c.groups.length pn1)) (by decide) (.slice an2 c.barriers.length pn2)).setB (w.heap.size + 1) 3 (set_at (a := ⟨w.heap.size + 1, 2, none⟩) (set_at (a := ⟨w.heap.size + 1, 1, none⟩) (set_at (a := ⟨w.heap.size + 1, 0, none⟩) (set_off (a := ⟨w.heap.size + 2, 4, none⟩) Xres_5.out (by first | omega | (simp only [szA, szS, szD, World.heap_drewN] at * <;> omega)) (.slice an4 c.threads.length pn4)) rfl rfl (.slice an0 c.sems.length pn0)) rfl rfl (.slice an1 c.groups.length pn1)) rfl rfl (.slice an2 c.barriers.length pn2)) (by decide) (.slice an3 c.rooms.length pn3)).setB (w.heap.size + 1) 4 (set_at (a := ⟨w.heap.size + 1, 3, none⟩) (set_at (a := ⟨w.heap.size + 1, 2, none⟩) (set_at (a := ⟨w.heap.size + 1, 1, none⟩) (set_at (a := ⟨w.heap.size + 1, 0, none⟩) (set_off (a := ⟨w.heap.size + 2, 4, none⟩) Xres_5.out (by first | omega | (simp only [szA, szS, szD, World.heap_drewN] at * <;> omega)) (.slice an4 c.threads.length pn4)) rfl rfl (.slice an0 c.sems.length pn0)) rfl rfl (.slice an1 c.groups.length pn1)) rfl rfl (.slice an2 c.barriers.length pn2)) rfl rfl (.slice an3 c.rooms.length pn3)) (by decide) (.slice an4 c.threads.length pn4)).mono (by first | omega | (simp only [szA, szS, szD, World.heap_drewN] at * <;> omega)), ((((((On2_5.out.setB (w.heap.size + 2) 4 Xout_5.out (by decide) (.slice an4 c.threads.length pn4)).setB (w.heap.size + 1) 0 (set_off (a := ⟨w.heap.size + 2, 4, none⟩) Xres_5.out (by first | omega | (simp only [szA, szS, szD, World.heap_drewN] at * <;> omega)) (.slice an4 c.threads.length pn4)) (by decide) (.slice an0 c.sems.length pn0)).setB (w.heap.size + 1) 1 (set_at (a := ⟨w.heap.size + 1, 0, none⟩) (set_off (a := ⟨w.heap.size + 2, 4, none⟩) Xres_5.out (by first | omega | (simp only [szA, szS, szD, World.heap_drewN] at * <;> omega)) (.slice an4 c.threads.length pn4)) rfl rfl (.slice an0 c.sems.length pn0)) (by decide) (.slice an1 c.groups.length pn1)).setB (w.heap.size + 1) 2 (set_at (a := ⟨w.heap.size + 1, 1, none⟩) (set_at (a := ⟨w.heap.size + 1, 0, none⟩) (set_off (a := ⟨w.heap.size + 2, 4, none⟩) Xres_5.out (by first | omega | (simp only [szA, szS, szD, World.heap_drewN] at * <;> omega)) (.slice an4 c.threads.length pn4)) rfl rfl (.slice an0 c.sems.length pn0)) rfl rfl (.slice an1 c.groups.length pn1)) (by decide) (.slice an2 c.barriers.length pn2)).setB (w.heap.size + 1) 3 (set_at (a := ⟨w.heap.size + 1, 2, none⟩) (set_at (a := ⟨w.heap.size + 1, 1, none⟩) (set_at (a := ⟨w.heap.size + 1, 0, none⟩) (set_off (a := ⟨w.heap.size + 2, 4, none⟩) Xres_5.out (by first | omega | (simp only [szA, szS, szD, World.heap_drewN] at * <;> omega)) (.slice an4 c.threads.length pn4)) rfl rfl (.slice an0 c.sems.length pn0)) rfl rfl (.slice an1 c.groups.length pn1)) rfl rfl (.slice an2 c.barriers.length pn2)) (by decide) (.slice an3 c.rooms.length pn3)).setB (w.heap.size + 1) 4 (set_at (a := ⟨w.heap.size + 1, 3, none⟩) (set_at (a := ⟨w.heap.size + 1, 2, none⟩) (set_at (a := ⟨w.heap.size + 1, 1, none⟩) (set_at (a := ⟨w.heap.size + 1, 0, none⟩) (set_off (a := ⟨w.heap.size + 2, 4, none⟩) Xres_5.out (by first | omega | (simp only [szA, szS, szD, World.heap_drewN] at * <;> omega)) (.slice an4 c.threads.length pn4)) rfl rfl (.slice an0 c.sems.length pn0)) rfl rfl (.slice an1 c.groups.length pn1)) rfl rfl (.slice an2 c.barriers.length pn2)) rfl rfl (.slice an3 c.rooms.length pn3)) (by decide) (.slice an4 c.threads.length pn4)).mono (by first | omega | (simp only [szA, szS, szD, World.heap_drewN] at * <;> omega)), ((((((On3_5.out.setB (w.heap.size + 2) 4 Xout_5.out (by decide) (.slice an4 c.threads.length pn4)).setB (w.heap.size + 1) 0 (set_off (a := ⟨w.heap.size + 2, 4, none⟩) Xres_5.out (by first | omega | (simp only [szA, szS, szD, World.heap_drewN] at * <;> omega)) (.slice an4 c.threads.length pn4)) (by decide) (.slice an0 c.sems.length pn0)).setB (w.heap.size + 1) 1 (set_at (a := ⟨w.heap.size + 1, 0, none⟩) (set_off (a := ⟨w.heap.size + 2, 4, none⟩) Xres_5.out (by first | omega | (simp only [szA, szS, szD, World.heap_drewN] at * <;> omega)) (.slice an4 c.threads.length pn4)) rfl rfl (.slice an0 c.sems.length pn0)) (by decide) (.slice an1 c.groups.length pn1)).setB (w.heap.size + 1) 2 (set_at (a := ⟨w.heap.size + 1, 1, none⟩) (set_at (a := ⟨w.heap.size + 1, 0, none⟩) (set_off (a := ⟨w.heap.size + 2, 4, none⟩) Xres_5.out (by first | omega | (simp only [szA, szS, szD, World.heap_drewN] at * <;> omega)) (.slice an4 c.threads.length pn4)) rfl rfl (.slice an0 c.sems.length pn0)) rfl rfl (.slice an1 c.groups.length pn1)) (by decide) (.slice an2 c.barriers.length pn2)).setB (w.heap.size + 1) 3 (set_at (a := ⟨w.heap.size + 1, 2, none⟩) (set_at (a := ⟨w.heap.size + 1, 1, none⟩) (set_at (a := ⟨w.heap.size + 1, 0, none⟩) (set_off (a := ⟨w.heap.size + 2, 4, none⟩) Xres_5.out (by first | omega | (simp only [szA, szS, szD, World.heap_drewN] at * <;> omega)) (.slice an4 c.threads.length pn4)) rfl rfl (.slice an0 c.sems.length pn0)) rfl rfl (.slice an1 c.groups.length pn1)) rfl rfl (.slice an2 c.barriers.length pn2)) (by decide) (.slice an3 c.rooms.length pn3)).setB (w.heap.size + 1) 4 (set_at (a := ⟨w.heap.size + 1, 3, none⟩) (set_at (a := ⟨w.heap.size + 1, 2, none⟩) (set_at (a := ⟨w.heap.size + 1, 1, none⟩) (set_at (a := ⟨w.heap.size + 1, 0, none⟩) (set_off (a := ⟨w.heap.size + 2, 4, none⟩) Xres_5.out (by first | omega | (simp only [szA, szS, szD, World.heap_drewN] at * <;> omega)) (.slice an4 c.threads.length pn4)) rfl rfl (.slice an0 c.sems.length pn0)) rfl rfl (.slice an1 c.groups.length pn1)) rfl rfl (.slice an2 c.barriers.length pn2)) rfl rfl (.slice an3 c.rooms.length pn3)) (by decide) (.slice an4 c.threads.length pn4)).mono (by first | omega | (simp only [szA, szS, szD, World.heap_drewN] at * <;> omega)), (TTOwn.set (TTOwn.set (TTOwn.set (TTOwn.set (TTOwn.set (TTOwn.set HT.out (a := ⟨w.heap.size + 2, 4, none⟩) (by first | omega | (simp only [szA, szS, szD, World.heap_drewN] at * <;> omega)) (.slice an4 c.threads.length pn4)) (a := ⟨w.heap.size + 1, 0, none⟩) (by first | omega | (simp only [szA, szS, szD, World.heap_drewN] at * <;> omega)) (.slice an0 c.sems.length pn0)) (a := ⟨w.heap.size + 1, 1, none⟩) (by first | omega | (simp only [szA, szS, szD, World.heap_drewN] at * <;> omega)) (.slice an1 c.groups.length pn1)) (a := ⟨w.heap.size + 1, 2, none⟩) (by first | omega | (simp only [szA, szS, szD, World.heap_drewN] at * <;> omega)) (.slice an2 c.barriers.length pn2)) (a := ⟨w.heap.size + 1, 3, none⟩) (by first | omega | (simp only [szA, szS, szD, World.heap_drewN] at * <;> omega)) (.slice an3 c.rooms.length pn3)) (a := ⟨w.heap.size + 1, 4, none⟩) (by first | omega | (simp only [szA, szS, szD, World.heap_drewN] at * <;> omega)) (.slice an4 c.threads.length pn4)).mono (by first | omega | (simp only [szA, szS, szD, World.heap_drewN] at * <;> omega))⟩, (below_setAt (below_setAt (below_setAt (below_setAt (below_setAt (below_setAt B5.out (w.heap.size + 2) 4 (by first | omega | (simp only [szA, szS, szD, World.heap_drewN] at * <;> omega)) (.slice an4 c.threads.length pn4)) (w.heap.size + 1) 0 (by first | omega | (simp only [szA, szS, szD, World.heap_drewN] at * <;> omega)) (.slice an0 c.sems.length pn0)) (w.heap.size + 1) 1 (by first | omega | (simp only [szA, szS, szD, World.heap_drewN] at * <;> omega)) (.slice an1 c.groups.length pn1)) (w.heap.size + 1) 2 (by first | omega | (simp only [szA, szS, szD, World.heap_drewN] at * <;> omega)) (.slice an2 c.barriers.length pn2)) (w.heap.size + 1) 3 (by first | omega | (simp only [szA, szS, szD, World.heap_drewN] at * <;> omega)) (.slice an3 c.rooms.length pn3)) (w.heap.size + 1) 4 (by first | omega | (simp only [szA, szS, szD, World.heap_drewN] at * <;> omega)) (.slice an4 c.threads.length pn4))⟩
set_option maxHeartbeats 3200000 in
theorem eqProg_calls (v1 v2 : Value) (c d : ProgD) (w : World) (h1 : ProgRow w v1 c) (h2 : ProgRow w v2 d) :
    Calls Try.prog 16 #[v1, v2] w fun e w' => e = .returned (.bool (decide (c = d))) ∧ Below w.heap.size w w' := by
  obtain ⟨a0, p0, a1, p1, a2, p2, a3, p3, a4, p4, rfl, r0, r1, r2, r3, r4⟩ := h1
  obtain ⟨b0, q0, b1, q1, b2, q2, b3, q3, b4, q4, rfl, s0, s1, s2, s3, s4⟩ := h2
  have R0 := Lib.hid r0; clear r0; have U0 := Lib.hid s0; clear s0
  have R1 := Lib.hid r1; clear r1; have U1 := Lib.hid s1; clear s1
  have R2 := Lib.hid r2; clear r2; have U2 := Lib.hid s2; clear s2
  have R3 := Lib.hid r3; clear r3; have U3 := Lib.hid s3; clear s3
  have R4 := Lib.hid r4; clear r4; have U4 := Lib.hid s4; clear s4
  go_enter Try.func16, Try.ntmps16
  go_wp2_with (fail)
  refine (eqIntS_calls _ _ c.sems d.sems _ (Row.below R0.out (Below.alloc (Below.alloc (Below.refl _ _) (by first | omega | (simp only [szA, szS, szD, World.heap_drewN] at * <;> omega)) _) (by first | omega | (simp only [szA, szS, szD, World.heap_drewN] at * <;> omega)) _)) (Row.below U0.out (Below.alloc (Below.alloc (Below.refl _ _) (by first | omega | (simp only [szA, szS, szD, World.heap_drewN] at * <;> omega)) _) (by first | omega | (simp only [szA, szS, szD, World.heap_drewN] at * <;> omega)) _))).mono ?_
  rintro e w1 ⟨rfl, hb⟩
  have B1 := Lib.hid (Below.trans (Below.alloc (Below.alloc (Below.refl _ _) (by first | omega | (simp only [szA, szS, szD, World.heap_drewN] at * <;> omega)) _) (by first | omega | (simp only [szA, szS, szD, World.heap_drewN] at * <;> omega)) _) (hb.mono (by first | omega | (simp only [szA, szS, szD, World.heap_drewN] at * <;> omega))) : Below w.heap.size w w1)
  have Z1 := hb.size
  have N1 : w.heap.size + 2 ≤ w1.heap.size := (by first | with_reducible exact Z1 | (simp only [szA, szS, szD] at Z1; omega))
  clear Z1
  have Xx_1 : Hid (w1.heap[w.heap.size]? = some (.cells #[.slice a0 c.sems.length p0, .slice a1 c.groups.length p1, .slice a2 c.barriers.length p2, .slice a3 c.rooms.length p3, .slice a4 c.threads.length p4] 30 (0, 0))) := below_at hb (heap_up (heap_at' (n := w.heap.size) (by first | omega | (simp only [szA, szS, szD, World.heap_drewN] at * <;> omega))))
  have Xy_1 : Hid (w1.heap[w.heap.size + 1]? = some (.cells #[.slice b0 d.sems.length q0, .slice b1 d.groups.length q1, .slice b2 d.barriers.length q2, .slice b3 d.rooms.length q3, .slice b4 d.threads.length q4] 30 (0, 0))) := below_at hb (heap_at' (n := w.heap.size + 1) (by first | omega | (simp only [szA, szS, szD, World.heap_drewN] at * <;> omega)))
  clear hb
  obtain ⟨cx1_0, cx1_1, cx1_2, cx1_3, cx1_4, fx1_0, fx1_1, fx1_2, fx1_3, fx1_4⟩ := box5 Xx_1.out; have lx1 := heap_lt Xx_1.out
  obtain ⟨cy1_0, cy1_1, cy1_2, cy1_3, cy1_4, fy1_0, fy1_1, fy1_2, fy1_3, fy1_4⟩ := box5 Xy_1.out; have ly1 := heap_lt Xy_1.out
  have S1 : w.heap.size ≤ w1.heap.size := (by omega)
  by_cases g0 : c.sems = d.sems
  · rw [decide_eq_true g0]
    have G0 := Lib.hid g0; clear g0
    go_wp2_with (fail)
    refine (eqIntS_calls _ _ c.groups d.groups _ (Row.below R1.out B1.out) (Row.below U1.out B1.out)).mono ?_
    rintro e w2 ⟨rfl, hb⟩
    have B2 := Lib.hid (Below.trans B1.out (hb.mono (by first | omega | (simp only [szA, szS, szD, World.heap_drewN] at * <;> omega))) : Below w.heap.size w w2)
    have Z2 := hb.size
    have N2 : w1.heap.size ≤ w2.heap.size := (by first | with_reducible exact Z2 | (simp only [szA, szS, szD] at Z2; omega))
    clear Z2
    have Xx_2 := Lib.hid (below_at hb Xx_1.out)
    have Xy_2 := Lib.hid (below_at hb Xy_1.out)
    clear hb
    obtain ⟨cx2_0, cx2_1, cx2_2, cx2_3, cx2_4, fx2_0, fx2_1, fx2_2, fx2_3, fx2_4⟩ := box5 Xx_2.out; have lx2 := heap_lt Xx_2.out
    obtain ⟨cy2_0, cy2_1, cy2_2, cy2_3, cy2_4, fy2_0, fy2_1, fy2_2, fy2_3, fy2_4⟩ := box5 Xy_2.out; have ly2 := heap_lt Xy_2.out
    have S2 : w.heap.size ≤ w2.heap.size := (by omega)
    clear cx1_0 cx1_1 cx1_2 cx1_3 cx1_4 fx1_0 fx1_1 fx1_2 fx1_3 fx1_4 cy1_0 cy1_1 cy1_2 cy1_3 cy1_4 fy1_0 fy1_1 fy1_2 fy1_3 fy1_4
    by_cases g1 : c.groups = d.groups
    · rw [decide_eq_true g1]
      have G1 := Lib.hid g1; clear g1
      go_wp2_with (fail)
      refine (eqIntS_calls _ _ c.barriers d.barriers _ (Row.below R2.out B2.out) (Row.below U2.out B2.out)).mono ?_
      rintro e w3 ⟨rfl, hb⟩
      have B3 := Lib.hid (Below.trans B2.out (hb.mono (by first | omega | (simp only [szA, szS, szD, World.heap_drewN] at * <;> omega))) : Below w.heap.size w w3)
      have Z3 := hb.size
      have N3 : w2.heap.size ≤ w3.heap.size := (by first | with_reducible exact Z3 | (simp only [szA, szS, szD] at Z3; omega))
      clear Z3
      have Xx_3 := Lib.hid (below_at hb Xx_2.out)
      have Xy_3 := Lib.hid (below_at hb Xy_2.out)
      clear hb
      obtain ⟨cx3_0, cx3_1, cx3_2, cx3_3, cx3_4, fx3_0, fx3_1, fx3_2, fx3_3, fx3_4⟩ := box5 Xx_3.out; have lx3 := heap_lt Xx_3.out
      obtain ⟨cy3_0, cy3_1, cy3_2, cy3_3, cy3_4, fy3_0, fy3_1, fy3_2, fy3_3, fy3_4⟩ := box5 Xy_3.out; have ly3 := heap_lt Xy_3.out
      have S3 : w.heap.size ≤ w3.heap.size := (by omega)
      clear cx2_0 cx2_1 cx2_2 cx2_3 cx2_4 fx2_0 fx2_1 fx2_2 fx2_3 fx2_4 cy2_0 cy2_1 cy2_2 cy2_3 cy2_4 fy2_0 fy2_1 fy2_2 fy2_3 fy2_4
      by_cases g2 : c.barriers = d.barriers
      · rw [decide_eq_true g2]
        have G2 := Lib.hid g2; clear g2
        go_wp2_with (fail)
        refine (eqIntS_calls _ _ c.rooms d.rooms _ (Row.below R3.out B3.out) (Row.below U3.out B3.out)).mono ?_
        rintro e w4 ⟨rfl, hb⟩
        have B4 := Lib.hid (Below.trans B3.out (hb.mono (by first | omega | (simp only [szA, szS, szD, World.heap_drewN] at * <;> omega))) : Below w.heap.size w w4)
        have Z4 := hb.size
        have N4 : w3.heap.size ≤ w4.heap.size := (by first | with_reducible exact Z4 | (simp only [szA, szS, szD] at Z4; omega))
        clear Z4
        have Xx_4 := Lib.hid (below_at hb Xx_3.out)
        have Xy_4 := Lib.hid (below_at hb Xy_3.out)
        clear hb
        obtain ⟨cx4_0, cx4_1, cx4_2, cx4_3, cx4_4, fx4_0, fx4_1, fx4_2, fx4_3, fx4_4⟩ := box5 Xx_4.out; have lx4 := heap_lt Xx_4.out
        obtain ⟨cy4_0, cy4_1, cy4_2, cy4_3, cy4_4, fy4_0, fy4_1, fy4_2, fy4_3, fy4_4⟩ := box5 Xy_4.out; have ly4 := heap_lt Xy_4.out
        have S4 : w.heap.size ≤ w4.heap.size := (by omega)
        clear cx3_0 cx3_1 cx3_2 cx3_3 cx3_4 fx3_0 fx3_1 fx3_2 fx3_3 fx3_4 cy3_0 cy3_1 cy3_2 cy3_3 cy3_4 fy3_0 fy3_1 fy3_2 fy3_3 fy3_4
        by_cases g3 : c.rooms = d.rooms
        · rw [decide_eq_true g3]
          have G3 := Lib.hid g3; clear g3
          go_wp2_with (fail)
          refine (eqOpSS_calls _ _ c.threads d.threads _ (TTRow.below R4.out B4.out) (TTRow.below U4.out B4.out)).mono ?_
          rintro e w5 ⟨rfl, hb⟩
          have B5 := Lib.hid (Below.trans B4.out (hb.mono (by first | omega | (simp only [szA, szS, szD, World.heap_drewN] at * <;> omega))) : Below w.heap.size w w5)
          have Z5 := hb.size
          have N5 : w4.heap.size ≤ w5.heap.size := (by first | with_reducible exact Z5 | (simp only [szA, szS, szD] at Z5; omega))
          clear Z5
          have Xx_5 := Lib.hid (below_at hb Xx_4.out)
          have Xy_5 := Lib.hid (below_at hb Xy_4.out)
          clear hb
          obtain ⟨cx5_0, cx5_1, cx5_2, cx5_3, cx5_4, fx5_0, fx5_1, fx5_2, fx5_3, fx5_4⟩ := box5 Xx_5.out; have lx5 := heap_lt Xx_5.out
          obtain ⟨cy5_0, cy5_1, cy5_2, cy5_3, cy5_4, fy5_0, fy5_1, fy5_2, fy5_3, fy5_4⟩ := box5 Xy_5.out; have ly5 := heap_lt Xy_5.out
          have S5 : w.heap.size ≤ w5.heap.size := (by omega)
          clear cx4_0 cx4_1 cx4_2 cx4_3 cx4_4 fx4_0 fx4_1 fx4_2 fx4_3 fx4_4 cy4_0 cy4_1 cy4_2 cy4_3 cy4_4 fy4_0 fy4_1 fy4_2 fy4_3 fy4_4
          by_cases g4 : c.threads = d.threads
          · rw [decide_eq_true g4]
            have G4 := Lib.hid g4; clear g4
            have hcd : c = d := by cases c; cases d; simp only [ProgD.mk.injEq]; exact ⟨G0.out, G1.out, G2.out, G3.out, G4.out⟩
            have HC := Lib.hid hcd; clear hcd
            go_wp2
            go_ret
            exact ⟨ret_bool (decide_eq_true HC.out).symm, B5.out⟩
          · rw [decide_eq_false g4]
            have G4 := Lib.hid g4; clear g4
            go_wp2
            go_ret
            exact ⟨ret_bool (decide_eq_false fun e => G4.out (by rw [e])).symm, B5.out⟩
        · rw [decide_eq_false g3]
          have G3 := Lib.hid g3; clear g3
          go_wp2
          go_ret
          exact ⟨ret_bool (decide_eq_false fun e => G3.out (by rw [e])).symm, B4.out⟩
      · rw [decide_eq_false g2]
        have G2 := Lib.hid g2; clear g2
        go_wp2
        go_ret
        exact ⟨ret_bool (decide_eq_false fun e => G2.out (by rw [e])).symm, B3.out⟩
    · rw [decide_eq_false g1]
      have G1 := Lib.hid g1; clear g1
      go_wp2
      go_ret
      exact ⟨ret_bool (decide_eq_false fun e => G1.out (by rw [e])).symm, B2.out⟩
  · rw [decide_eq_false g0]
    have G0 := Lib.hid g0; clear g0
    go_wp2
    go_ret
    exact ⟨ret_bool (decide_eq_false fun e => G0.out (by rw [e])).symm, B1.out⟩
end Go.Proofs.Ytobkammimkgnkaa
