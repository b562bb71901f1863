/- spec.l13Num: what it returns, for every text (made by gen_num.py). -/
import Derived.Test.YthbnbofoefdneaaDoorNumP
namespace Go.Proofs.YthbnbofoefdneaaDoor
open Go.RowKit
set_option linter.unusedSimpArgs false
set_option linter.unusedVariables false
set_option maxHeartbeats 3200000 in
theorem l13Num_calls (s : ByteArray) (w : World) (hs : s.size ≤ 2000000) :
    Calls Tryd.prog 16 #[.string s] w fun e w' => e = .returned (.tuple #[.int .i64 ((numB s).getD 0), .bool (numB s).isSome]) ∧ Below w.heap.size w w' := by
  by_cases h0 : 0 < s.size
  · have d1 : decide ((0 : Int) < (s.size : Int)) = true := decide_eq_true (by omega)
    by_cases hc : s[0].toNat = 45
    · have d2 : ((s[0].toNat : Int) == 45) = true := beq_iff_eq.2 (by omega)
      have HN := Lib.hid (numB_neg h0 hc); clear hc
      obtain ⟨t, ht⟩ : ∃ t, s.extract 1 s.size = t := ⟨_, rfl⟩
      have htz : t.size = s.size - 1 := by rw [← ht]; exact extract1_size s
      rw [ht] at HN
      have HT := Lib.hid ht; clear ht
      by_cases hz : t.size = 0
      · have d3 : ((t.size : Int) == 0) = true := beq_iff_eq.2 (by omega)
        have d3s : (((s.size - 1 : Nat) : Int) == 0) = true := beq_iff_eq.2 (by omega)
        have HG := Lib.hid (digB_empty (n := true) hz)
        go_enter Tryd.func16, Tryd.ntmps16
        go_wp2_with (first | rw [HT.out])
        refine bodyPost_ret (v := .tuple #[.int .i64 0, .bool false]) (by simp [results, Tryd.results16, go_sem]) rfl ⟨by rw [HN.out, HG.out]; rfl, Below.refl _ _⟩
      · have hp : 0 < t.size := by omega
        have d3 : ((t.size : Int) == 0) = false := beq_eq_false_iff_ne.2 (by omega)
        have d3s : (((s.size - 1 : Nat) : Int) == 0) = false := beq_eq_false_iff_ne.2 (by omega)
        have d3' : (t.size == 0) = false := beq_eq_false_iff_ne.2 hz
        have d3n : ¬ t.size = 0 := hz
        by_cases h17 : 17 < t.size
        · have d4 : decide (17 < (t.size : Int)) = true := decide_eq_true (by omega)
          have d4s : decide (17 < ((s.size - 1 : Nat) : Int)) = true := decide_eq_true (by omega)
          have HG := Lib.hid (digB_long (n := true) h17)
          go_enter Tryd.func16, Tryd.ntmps16
          go_wp2_with (first | rw [HT.out])
          refine bodyPost_ret (v := .tuple #[.int .i64 0, .bool false]) (by simp [results, Tryd.results16, go_sem]) rfl ⟨by rw [HN.out, HG.out]; rfl, Below.refl _ _⟩
        · have d4 : decide (17 < (t.size : Int)) = false := decide_eq_false (by omega)
          have d4s : decide (17 < ((s.size - 1 : Nat) : Int)) = false := decide_eq_false (by omega)
          have h17 : t.size ≤ 17 := by omega
          by_cases h8 : t[0].toNat = 48
          · have d5 : ((t[0].toNat : Int) == 48) = true := beq_iff_eq.2 (by omega)
            by_cases h1 : 1 < t.size
            · have d6 : decide (1 < (t.size : Int)) = true := decide_eq_true (by omega)
              have d6s : decide (1 < ((s.size - 1 : Nat) : Int)) = true := decide_eq_true (by omega)
              have HG := Lib.hid (digB_zero (n := true) hp h8 (.inr rfl))
              go_enter Tryd.func16, Tryd.ntmps16
              go_wp2_with (first | rw [HT.out])
              refine bodyPost_ret (v := .tuple #[.int .i64 0, .bool false]) (by simp [results, Tryd.results16, go_sem]) rfl ⟨by rw [HN.out, HG.out]; rfl, Below.refl _ _⟩
            · have d6 : decide (1 < (t.size : Int)) = false := decide_eq_false (by omega)
              have d6s : decide (1 < ((s.size - 1 : Nat) : Int)) = false := decide_eq_false (by omega)
              have HG := Lib.hid (digB_zero (n := true) hp h8 (.inr rfl))
              go_enter Tryd.func16, Tryd.ntmps16
              go_wp2_with (first | rw [HT.out])
              refine bodyPost_ret (v := .tuple #[.int .i64 0, .bool false]) (by simp [results, Tryd.results16, go_sem]) rfl ⟨by rw [HN.out, HG.out]; rfl, Below.refl _ _⟩
          · have d5 : ((t[0].toNat : Int) == 48) = false := beq_eq_false_iff_ne.2 (by omega)
            have hgo : ¬ (t[0].toNat = 48 ∧ (1 < t.size ∨ true = true)) := fun e => h8 e.1
            clear h8
            go_enter Tryd.func16, Tryd.ntmps16
            have HG := Lib.hid (digB_go (n := true) hp h17 hgo); clear hgo
            go_wp2_with (rw [HT.out])
            go_wp2
            go_loopw [5, 6] (fun nv iv wr => ∃ k m : Nat, k ≤ t.size ∧ nv = .int .i64 m ∧ iv = .int .i64 k ∧ NumInv t k m ∧ Below w.heap.size w wr) (fun _ iv _ => t.size - (intOf iv).toNat)
            case atStart => exact ⟨0, 0, Nat.zero_le _, rfl, rfl, NumInv.start _, Below.refl _ _⟩
            case round =>
              obtain ⟨k, m, hk, rfl, rfl, hi, hb⟩ := hrel
              have hm := hi.lt (by omega)
              have HI := Lib.hid hi; have HB := Lib.hid hb; clear hi hb
              by_cases hlt : k < t.size
              · have d20 : decide ((k : Int) < (t.size : Int)) = true := decide_eq_true (by omega)
                have hb8 : t[k].toNat < 256 := t[k].toNat_lt
                by_cases h48 : t[k].toNat < 48
                · have d21 : decide ((t[k].toNat : Int) < 48) = true := decide_eq_true (by omega)
                  have HR := Lib.hid (NumInv.bad hlt (by omega))
                  clear h48
                  go_wp2
                  refine bodyPost_ret (v := .tuple #[.int .i64 0, .bool false]) (by simp [results, Tryd.results16, go_sem]) rfl ⟨by rw [HN.out, HG.out, HR.out]; rfl, HB.out⟩
                · have d21 : decide ((t[k].toNat : Int) < 48) = false := decide_eq_false (by omega)
                  by_cases h57 : 57 < t[k].toNat
                  · have d22 : decide (57 < (t[k].toNat : Int)) = true := decide_eq_true (by omega)
                    have HR := Lib.hid (NumInv.bad hlt (by omega))
                    go_wp2
                    refine bodyPost_ret (v := .tuple #[.int .i64 0, .bool false]) (by simp [results, Tryd.results16, go_sem]) rfl ⟨by rw [HN.out, HG.out, HR.out]; rfl, HB.out⟩
                  · have d22 : decide (57 < (t[k].toNat : Int)) = false := decide_eq_false (by omega)
                    have HS := Lib.hid (HI.out.step hlt (by omega) (by omega))
                    go_wp2
                    go_roundw
                    case rel => exact ⟨k + 1, m * 10 + (t[k].toNat - 48), by omega, by go_num, by go_num, HS.out, HB.out⟩
                    case measure => simp [intOf]; omega
              · have d20 : decide ((k : Int) < (t.size : Int)) = false := decide_eq_false (by omega)
                have HR := Lib.hid (HI.out.done (by omega))
                go_wp2
                refine bodyPost_ret (v := .tuple #[.int .i64 (-(m : Int)), .bool true]) (by simp [results, Tryd.results16, go_sem]) rfl ⟨by rw [HN.out, HG.out, HR.out]; rfl, HB.out⟩
    · have d2 : ((s[0].toNat : Int) == 45) = false := beq_eq_false_iff_ne.2 (by omega)
      have HN := Lib.hid (numB_pos fun _ => hc); clear hc
      by_cases hz : s.size = 0
      · have d3 : ((s.size : Int) == 0) = true := beq_iff_eq.2 (by omega)
        have HG := Lib.hid (digB_empty (n := false) hz)
        go_enter Tryd.func16, Tryd.ntmps16
        go_wp2
        refine bodyPost_ret (v := .tuple #[.int .i64 0, .bool false]) (by simp [results, Tryd.results16, go_sem]) rfl ⟨by rw [HN.out, HG.out]; rfl, Below.refl _ _⟩
      · have hp : 0 < s.size := by omega
        have d3 : ((s.size : Int) == 0) = false := beq_eq_false_iff_ne.2 (by omega)
        have d3' : (s.size == 0) = false := beq_eq_false_iff_ne.2 hz
        have d3n : ¬ s.size = 0 := hz
        by_cases h17 : 17 < s.size
        · have d4 : decide (17 < (s.size : Int)) = true := decide_eq_true (by omega)
          have HG := Lib.hid (digB_long (n := false) h17)
          go_enter Tryd.func16, Tryd.ntmps16
          go_wp2
          refine bodyPost_ret (v := .tuple #[.int .i64 0, .bool false]) (by simp [results, Tryd.results16, go_sem]) rfl ⟨by rw [HN.out, HG.out]; rfl, Below.refl _ _⟩
        · have d4 : decide (17 < (s.size : Int)) = false := decide_eq_false (by omega)
          have h17 : s.size ≤ 17 := by omega
          by_cases h8 : s[0].toNat = 48
          · have d5 : ((s[0].toNat : Int) == 48) = true := beq_iff_eq.2 (by omega)
            by_cases h1 : 1 < s.size
            · have d6 : decide (1 < (s.size : Int)) = true := decide_eq_true (by omega)
              have HG := Lib.hid (digB_zero (n := false) hp h8 (.inl h1))
              go_enter Tryd.func16, Tryd.ntmps16
              go_wp2
              refine bodyPost_ret (v := .tuple #[.int .i64 0, .bool false]) (by simp [results, Tryd.results16, go_sem]) rfl ⟨by rw [HN.out, HG.out]; rfl, Below.refl _ _⟩
            · have d6 : decide (1 < (s.size : Int)) = false := decide_eq_false (by omega)
              have hgo : ¬ (s[0].toNat = 48 ∧ (1 < s.size ∨ false = true)) := fun e => by rcases e.2 with e | e; omega; cases e
              clear h8
              go_enter Tryd.func16, Tryd.ntmps16
              have HG := Lib.hid (digB_go (n := false) hp h17 hgo); clear hgo
              go_wp2
              skip
              go_loopw [5, 6] (fun nv iv wr => ∃ k m : Nat, k ≤ s.size ∧ nv = .int .i64 m ∧ iv = .int .i64 k ∧ NumInv s k m ∧ Below w.heap.size w wr) (fun _ iv _ => s.size - (intOf iv).toNat)
              case atStart => exact ⟨0, 0, Nat.zero_le _, rfl, rfl, NumInv.start _, Below.refl _ _⟩
              case round =>
                obtain ⟨k, m, hk, rfl, rfl, hi, hb⟩ := hrel
                have hm := hi.lt (by omega)
                have HI := Lib.hid hi; have HB := Lib.hid hb; clear hi hb
                by_cases hlt : k < s.size
                · have d20 : decide ((k : Int) < (s.size : Int)) = true := decide_eq_true (by omega)
                  have hb8 : s[k].toNat < 256 := s[k].toNat_lt
                  by_cases h48 : s[k].toNat < 48
                  · have d21 : decide ((s[k].toNat : Int) < 48) = true := decide_eq_true (by omega)
                    have HR := Lib.hid (NumInv.bad hlt (by omega))
                    clear h48
                    go_wp2
                    refine bodyPost_ret (v := .tuple #[.int .i64 0, .bool false]) (by simp [results, Tryd.results16, go_sem]) rfl ⟨by rw [HN.out, HG.out, HR.out]; rfl, HB.out⟩
                  · have d21 : decide ((s[k].toNat : Int) < 48) = false := decide_eq_false (by omega)
                    by_cases h57 : 57 < s[k].toNat
                    · have d22 : decide (57 < (s[k].toNat : Int)) = true := decide_eq_true (by omega)
                      have HR := Lib.hid (NumInv.bad hlt (by omega))
                      go_wp2
                      refine bodyPost_ret (v := .tuple #[.int .i64 0, .bool false]) (by simp [results, Tryd.results16, go_sem]) rfl ⟨by rw [HN.out, HG.out, HR.out]; rfl, HB.out⟩
                    · have d22 : decide (57 < (s[k].toNat : Int)) = false := decide_eq_false (by omega)
                      have HS := Lib.hid (HI.out.step hlt (by omega) (by omega))
                      go_wp2
                      go_roundw
                      case rel => exact ⟨k + 1, m * 10 + (s[k].toNat - 48), by omega, by go_num, by go_num, HS.out, HB.out⟩
                      case measure => simp [intOf]; omega
                · have d20 : decide ((k : Int) < (s.size : Int)) = false := decide_eq_false (by omega)
                  have HR := Lib.hid (HI.out.done (by omega))
                  go_wp2
                  refine bodyPost_ret (v := .tuple #[.int .i64 (m : Int), .bool true]) (by simp [results, Tryd.results16, go_sem]) rfl ⟨by rw [HN.out, HG.out, HR.out]; rfl, HB.out⟩
          · have d5 : ((s[0].toNat : Int) == 48) = false := beq_eq_false_iff_ne.2 (by omega)
            have hgo : ¬ (s[0].toNat = 48 ∧ (1 < s.size ∨ false = true)) := fun e => h8 e.1
            clear h8
            go_enter Tryd.func16, Tryd.ntmps16
            have HG := Lib.hid (digB_go (n := false) hp h17 hgo); clear hgo
            go_wp2
            skip
            go_loopw [5, 6] (fun nv iv wr => ∃ k m : Nat, k ≤ s.size ∧ nv = .int .i64 m ∧ iv = .int .i64 k ∧ NumInv s k m ∧ Below w.heap.size w wr) (fun _ iv _ => s.size - (intOf iv).toNat)
            case atStart => exact ⟨0, 0, Nat.zero_le _, rfl, rfl, NumInv.start _, Below.refl _ _⟩
            case round =>
              obtain ⟨k, m, hk, rfl, rfl, hi, hb⟩ := hrel
              have hm := hi.lt (by omega)
              have HI := Lib.hid hi; have HB := Lib.hid hb; clear hi hb
              by_cases hlt : k < s.size
              · have d20 : decide ((k : Int) < (s.size : Int)) = true := decide_eq_true (by omega)
                have hb8 : s[k].toNat < 256 := s[k].toNat_lt
                by_cases h48 : s[k].toNat < 48
                · have d21 : decide ((s[k].toNat : Int) < 48) = true := decide_eq_true (by omega)
                  have HR := Lib.hid (NumInv.bad hlt (by omega))
                  clear h48
                  go_wp2
                  refine bodyPost_ret (v := .tuple #[.int .i64 0, .bool false]) (by simp [results, Tryd.results16, go_sem]) rfl ⟨by rw [HN.out, HG.out, HR.out]; rfl, HB.out⟩
                · have d21 : decide ((s[k].toNat : Int) < 48) = false := decide_eq_false (by omega)
                  by_cases h57 : 57 < s[k].toNat
                  · have d22 : decide (57 < (s[k].toNat : Int)) = true := decide_eq_true (by omega)
                    have HR := Lib.hid (NumInv.bad hlt (by omega))
                    go_wp2
                    refine bodyPost_ret (v := .tuple #[.int .i64 0, .bool false]) (by simp [results, Tryd.results16, go_sem]) rfl ⟨by rw [HN.out, HG.out, HR.out]; rfl, HB.out⟩
                  · have d22 : decide (57 < (s[k].toNat : Int)) = false := decide_eq_false (by omega)
                    have HS := Lib.hid (HI.out.step hlt (by omega) (by omega))
                    go_wp2
                    go_roundw
                    case rel => exact ⟨k + 1, m * 10 + (s[k].toNat - 48), by omega, by go_num, by go_num, HS.out, HB.out⟩
                    case measure => simp [intOf]; omega
              · have d20 : decide ((k : Int) < (s.size : Int)) = false := decide_eq_false (by omega)
                have HR := Lib.hid (HI.out.done (by omega))
                go_wp2
                refine bodyPost_ret (v := .tuple #[.int .i64 (m : Int), .bool true]) (by simp [results, Tryd.results16, go_sem]) rfl ⟨by rw [HN.out, HG.out, HR.out]; rfl, HB.out⟩
  · have d1 : decide ((0 : Int) < (s.size : Int)) = false := decide_eq_false (by omega)
    have HN := Lib.hid (numB_pos (s := s) fun h => absurd h h0)
    have d3 : ((s.size : Int) == 0) = true := beq_iff_eq.2 (by omega)
    have HG := Lib.hid (digB_empty (d := s) (n := false) (by omega))
    go_enter Tryd.func16, Tryd.ntmps16
    go_wp2
    refine bodyPost_ret (v := .tuple #[.int .i64 0, .bool false]) (by simp [results, Tryd.results16, go_sem]) rfl ⟨by rw [HN.out, HG.out]; rfl, Below.refl _ _⟩
end Go.Proofs.YthbnbofoefdneaaDoor
