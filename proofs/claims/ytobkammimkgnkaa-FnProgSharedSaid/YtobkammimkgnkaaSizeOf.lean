/- SizeOf of both: what they return (made by gen_progvalid.py). -/
import Derived.Test.YtobkammimkgnkaaProgValid
import Derived.Test.YtobkammimkgnkaaProgValidS
namespace Go.Proofs.Ytobkammimkgnkaa
open Go.RowKit
set_option linter.unusedSimpArgs false
set_option linter.unusedVariables false
def sizeB (c : ProgD) : Int := if progB c = true then (ttSum c.threads : Nat) else 0
theorem sizeB_yes {c : ProgD} (h : progB c = true) : sizeB c = (ttSum c.threads : Nat) := if_pos h
theorem sizeB_no {c : ProgD} (h : progB c = false) : sizeB c = 0 := if_neg (by rw [h]; decide)
theorem ttSum_le : ∀ (ts : List (List OpT)), (∀ t ∈ ts, t.length ≤ 8) → ttSum ts ≤ 8 * ts.length
  | [], _ => by simp [ttSum]
  | t :: r, h => by
    have h1 := ttSum_le r (fun x hx => h x (List.mem_cons_of_mem _ hx))
    have h2 := h t List.mem_cons_self
    simp only [ttSum, List.map_cons, List.sum_cons, List.length_cons] at *
    omega
theorem ttSum_small {c : ProgD} (h : ProgOk c) (k : Nat) : ttSum (c.threads.take k) ≤ 32 := by
  have h1 := ttSum_le c.threads (fun t ht => (h.2.2.2.2.2.2 t ht).1)
  have h2 := h.2.2.2.2.2.1
  have h3 := ttSum_take c.threads k
  omega
set_option maxRecDepth 100000 in
set_option maxHeartbeats 8000000 in
theorem SizeOfO (v : Value) (c : ProgD) (w : World) (h : ProgRow w v c) :
    Calls Try.prog 23 #[v] w fun e w' => e = .returned (.int .i64 (sizeB c)) ∧ Below w.heap.size w w' := by
  have HR := Lib.hid h
  obtain ⟨a0, p0, a1, p1, a2, p2, a3, p3, a4, p4, rfl, r0, r1, r2, r3, r4⟩ := h
  have R4 := Lib.hid r4; clear r0 r1 r2 r3 r4
  have hmt : c.threads.length ≤ 9223372036854775807 := by obtain ⟨_, _, _, g1, g2, _⟩ := R4.out.look; omega
  go_enter Try.func23, Try.ntmps23
  go_wp2_with (fail)
  refine (ProgValidO _ c _ (ProgRow.below HR.out (Below.alloc (Below.refl _ _) (by first | omega | (simp only [szA, szS, szD, World.heap_drewN] at * <;> omega)) _))).mono ?_
  rintro e w1 ⟨rfl, hb⟩
  have B1 := Lib.hid (Below.trans (Below.alloc (Below.refl _ _) (by first | omega | (simp only [szA, szS, szD, World.heap_drewN] at * <;> omega)) _) (hb.mono (by first | omega | (simp only [szA, szS, szD, World.heap_drewN] at * <;> omega))) : Below w.heap.size w w1)
  have Z1 := hb.size
  have N1 : w.heap.size + 1 ≤ w1.heap.size := (by first | with_reducible exact Z1 | (simp only [szA, szS, szD] at Z1; omega))
  clear Z1
  have Xp_1 : Hid (w1.heap[w.heap.size]? = some (.cells #[.slice a0 c.sems.length p0, .slice a1 c.groups.length p1, .slice a2 c.barriers.length p2, .slice a3 c.rooms.length p3, .slice a4 c.threads.length p4] 30 (0, 0))) := below_at hb (heap_at' (n := w.heap.size) (by first | omega | (simp only [szA, szS, szD, World.heap_drewN] at * <;> omega)))
  clear hb
  obtain ⟨cp1_0, cp1_1, cp1_2, cp1_3, cp1_4, fp1_0, fp1_1, fp1_2, fp1_3, fp1_4⟩ := box5 Xp_1.out; have lp1 := heap_lt Xp_1.out
  have S1 : w.heap.size ≤ w1.heap.size := (by omega)
  cases hv : progB c
  · have HV := Lib.hid hv; clear hv
    go_wp2
    go_ret
    exact ⟨ret_int (sizeB_no HV.out).symm, B1.out⟩
  · have HV := Lib.hid hv; clear hv
    have hok := progB_true.1 HV.out
    go_wp2_with (fail)
    go_loopw [3, 12] (fun s i wr => ∃ k : Nat, k ≤ c.threads.length ∧ i = .int .i64 k ∧ s = .int .i64 (ttSum (c.threads.take k) : Nat) ∧ wr.heap[w.heap.size]? = some (.cells #[.slice a0 c.sems.length p0, .slice a1 c.groups.length p1, .slice a2 c.barriers.length p2, .slice a3 c.rooms.length p3, .slice a4 c.threads.length p4] 30 (0, 0)) ∧ Below w.heap.size w wr) (fun _ i _ => c.threads.length - (intOf i).toNat)
    case atStart => exact ⟨0, Nat.zero_le _, rfl, by simp [ttSum], Xp_1.out, B1.out⟩
    case round =>
      obtain ⟨w20, rfl⟩ : ∃ x : World, x = wr := ⟨_, rfl⟩
      obtain ⟨k, hk, rfl, rfl, hx, hb⟩ := hrel
      have B20 := Lib.hid hb; have S20 := hb.size; have Xp_20 := Lib.hid hx; clear hb hx
      obtain ⟨cp20_0, cp20_1, cp20_2, cp20_3, cp20_4, fp20_0, fp20_1, fp20_2, fp20_3, fp20_4⟩ := box5 Xp_20.out; have lp20 := heap_lt Xp_20.out
      by_cases hlt : k < c.threads.length
      · obtain ⟨_, _, e1, _, _, r4⟩ := R4.out.look; injection e1 with e1 _ e2; subst e1 e2
        obtain ⟨b, o, rfl, hb1, hc1⟩ := r4 (by omega)
        obtain ⟨th, ht⟩ := get_ex hlt
        obtain ⟨zs, zd, g1, q1⟩ := hc1 k th ht
        have k1 := (B20.out.cell (p := ⟨b, o + k, none⟩) hb1).trans g1
        have HS := Lib.hid (ttSum_succ ht)
        have s1 := ttSum_small hok k
        have s2 := ttSum_small hok (k + 1)
        rw [HS.out] at s2
        clear hc1 q1 r4 g1 ht
        have e1 : IntKind.i64.wrap ((ttSum (c.threads.take k) : Int) + (th.length : Int)) = (ttSum (c.threads.take k) : Int) + (th.length : Int) := IntWalk.i64_in _ (by omega)
        go_wp2
        go_roundw
        case rel => exact ⟨k + 1, by omega, by go_num, by rw [HS.out]; first | go_num | (simp; omega), Xp_20.out, B20.out⟩
        case measure => simp [intOf]; omega
      · obtain rfl : k = c.threads.length := by omega
        have e9 : c.threads.take c.threads.length = c.threads := take_all (Nat.le_refl _)
        have HV9 := Lib.hid (sizeB_yes HV.out)
        have E9 := Lib.hid e9; clear e9
        go_wp2
        go_ret
        exact ⟨ret_int (by rw [HV9.out, E9.out]), B20.out⟩
set_option maxRecDepth 100000 in
set_option maxHeartbeats 8000000 in
theorem sSizeOfO (v : Value) (c : ProgD) (w : World) (h : ProgRow w v c) :
    Calls Try.prog 22 #[v] w fun e w' => e = .returned (.int .i64 (sizeB c)) ∧ Below w.heap.size w w' := by
  have HR := Lib.hid h
  obtain ⟨a0, p0, a1, p1, a2, p2, a3, p3, a4, p4, rfl, r0, r1, r2, r3, r4⟩ := h
  have R4 := Lib.hid r4; clear r0 r1 r2 r3 r4
  have hmt : c.threads.length ≤ 9223372036854775807 := by obtain ⟨_, _, _, g1, g2, _⟩ := R4.out.look; omega
  cases hv : progB c
  · have HV := Lib.hid hv; clear hv
    have hz := sizeB_no HV.out; have HZ := Lib.hid hz; clear hz
    go_enter Try.func22, Try.ntmps22
    go_wp2_with (fail)
    go_loopw [3, 4] (fun s i wr => s = .int .i64 0 ∧ i = .int .i64 0 ∧ wr.heap[w.heap.size]? = some (.cells #[.slice a0 c.sems.length p0, .slice a1 c.groups.length p1, .slice a2 c.barriers.length p2, .slice a3 c.rooms.length p3, .slice a4 c.threads.length p4] 30 (0, 0)) ∧ Below w.heap.size w wr) (fun _ i _ => 0)
    case atStart => exact ⟨rfl, rfl, (heap_at' (n := w.heap.size) (by first | omega | (simp only [szA, szS, szD, World.heap_drewN] at * <;> omega))), (Below.alloc (Below.refl _ _) (by first | omega | (simp only [szA, szS, szD, World.heap_drewN] at * <;> omega)) _)⟩
    case round =>
      obtain ⟨w20, rfl⟩ : ∃ x : World, x = wr := ⟨_, rfl⟩
      obtain ⟨rfl, rfl, hx, hb⟩ := hrel
      have B20 := Lib.hid hb; have S20 := hb.size; have Xp_20 := Lib.hid hx; clear hb hx
      obtain ⟨cp20_0, cp20_1, cp20_2, cp20_3, cp20_4, fp20_0, fp20_1, fp20_2, fp20_3, fp20_4⟩ := box5 Xp_20.out; have lp20 := heap_lt Xp_20.out
      by_cases hlt : 0 < c.threads.length
      · have d0 : decide ((0 : Int) < (c.threads.length : Int)) = true := decide_eq_true (by omega)
        go_wp2_with (fail)
        refine (sProgValidO _ c _ (ProgRow.below HR.out B20.out)).mono ?_
        rw [HV.out]
        rintro e w21 ⟨rfl, hb⟩
        have B21 := Lib.hid (Below.trans B20.out (hb.mono (by first | omega | (simp only [szA, szS, szD, World.heap_drewN] at * <;> omega))) : Below w.heap.size w w21)
        have Z21 := hb.size
        have N21 : w20.heap.size ≤ w21.heap.size := (by first | with_reducible exact Z21 | (simp only [szA, szS, szD] at Z21; omega))
        clear Z21
        have Xp_21 := Lib.hid (below_at hb Xp_20.out)
        clear hb
        obtain ⟨cp21_0, cp21_1, cp21_2, cp21_3, cp21_4, fp21_0, fp21_1, fp21_2, fp21_3, fp21_4⟩ := box5 Xp_21.out; have lp21 := heap_lt Xp_21.out
        have S21 : w.heap.size ≤ w21.heap.size := (by omega)
        go_wp2
        go_ret
        exact ⟨ret_int HZ.out.symm, B21.out⟩
      · have d0 : decide ((0 : Int) < (c.threads.length : Int)) = false := decide_eq_false (by omega)
        go_wp2
        go_ret
        exact ⟨ret_int HZ.out.symm, B20.out⟩
  · have HV := Lib.hid hv; clear hv
    have hok := progB_true.1 HV.out
    go_enter Try.func22, Try.ntmps22
    go_wp2_with (fail)
    go_loopw [3, 4] (fun s i wr => ∃ k : Nat, k ≤ c.threads.length ∧ i = .int .i64 k ∧ s = .int .i64 (ttSum (c.threads.take k) : Nat) ∧ wr.heap[w.heap.size]? = some (.cells #[.slice a0 c.sems.length p0, .slice a1 c.groups.length p1, .slice a2 c.barriers.length p2, .slice a3 c.rooms.length p3, .slice a4 c.threads.length p4] 30 (0, 0)) ∧ Below w.heap.size w wr) (fun _ i _ => c.threads.length - (intOf i).toNat)
    case atStart => exact ⟨0, Nat.zero_le _, rfl, by simp [ttSum], (heap_at' (n := w.heap.size) (by first | omega | (simp only [szA, szS, szD, World.heap_drewN] at * <;> omega))), (Below.alloc (Below.refl _ _) (by first | omega | (simp only [szA, szS, szD, World.heap_drewN] at * <;> omega)) _)⟩
    case round =>
      obtain ⟨w20, rfl⟩ : ∃ x : World, x = wr := ⟨_, rfl⟩
      obtain ⟨k, hk, rfl, rfl, hx, hb⟩ := hrel
      have B20 := Lib.hid hb; have S20 := hb.size; have Xp_20 := Lib.hid hx; clear hb hx
      obtain ⟨cp20_0, cp20_1, cp20_2, cp20_3, cp20_4, fp20_0, fp20_1, fp20_2, fp20_3, fp20_4⟩ := box5 Xp_20.out; have lp20 := heap_lt Xp_20.out
      by_cases hlt : k < c.threads.length
      · have d0 : decide ((k : Int) < (c.threads.length : Int)) = true := decide_eq_true (by omega)
        go_wp2_with (fail)
        refine (sProgValidO _ c _ (ProgRow.below HR.out B20.out)).mono ?_
        rw [HV.out]
        rintro e w21 ⟨rfl, hb⟩
        have B21 := Lib.hid (Below.trans B20.out (hb.mono (by first | omega | (simp only [szA, szS, szD, World.heap_drewN] at * <;> omega))) : Below w.heap.size w w21)
        have Z21 := hb.size
        have N21 : w20.heap.size ≤ w21.heap.size := (by first | with_reducible exact Z21 | (simp only [szA, szS, szD] at Z21; omega))
        clear Z21
        have Xp_21 := Lib.hid (below_at hb Xp_20.out)
        clear hb
        obtain ⟨cp21_0, cp21_1, cp21_2, cp21_3, cp21_4, fp21_0, fp21_1, fp21_2, fp21_3, fp21_4⟩ := box5 Xp_21.out; have lp21 := heap_lt Xp_21.out
        have S21 : w.heap.size ≤ w21.heap.size := (by omega)
        obtain ⟨_, _, e1, _, _, r4⟩ := R4.out.look; injection e1 with e1 _ e2; subst e1 e2
        obtain ⟨b, o, rfl, hb1, hc1⟩ := r4 (by omega)
        obtain ⟨th, ht⟩ := get_ex hlt
        obtain ⟨zs, zd, g1, q1⟩ := hc1 k th ht
        have k1 := (B21.out.cell (p := ⟨b, o + k, none⟩) hb1).trans g1
        have HS := Lib.hid (ttSum_succ ht)
        have s1 := ttSum_small hok k
        have s2 := ttSum_small hok (k + 1)
        rw [HS.out] at s2
        clear hc1 q1 r4 g1 ht
        have e1 : IntKind.i64.wrap ((ttSum (c.threads.take k) : Int) + (th.length : Int)) = (ttSum (c.threads.take k) : Int) + (th.length : Int) := IntWalk.i64_in _ (by omega)
        go_wp2
        go_roundw
        case rel => exact ⟨k + 1, by omega, by go_num, by rw [HS.out]; first | go_num | (simp; omega), Xp_21.out, B21.out⟩
        case measure => simp [intOf]; omega
      · have d0 : decide ((k : Int) < (c.threads.length : Int)) = false := decide_eq_false (by omega)
        obtain rfl : k = c.threads.length := by omega
        have e9 : c.threads.take c.threads.length = c.threads := take_all (Nat.le_refl _)
        have HV9 := Lib.hid (sizeB_yes HV.out)
        have E9 := Lib.hid e9; clear e9
        go_wp2
        go_ret
        exact ⟨ret_int (by rw [HV9.out, E9.out]), B20.out⟩
end Go.Proofs.Ytobkammimkgnkaa
