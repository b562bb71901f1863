/- The exact laws' helpers on slices of ints: what they do. -/
import Derived.Test.YtpgiinklbnlloaaOwn2
import Derived.Test.YtpgiinklbnlloaaEq
import Derived.Test.YtpgiinklbnlloaaInfo
import Derived.Deep.RegionHeld3
import Derived.Deep.DrawnRows
import Derived.Deep.LoopGhost
namespace Go.Proofs.Ytpgiinklbnlloaa
open Go.RowKit
set_option linter.unusedSimpArgs false
set_option linter.unusedVariables false
theorem szIntS_calls (a : Option Addr) (n c : Nat) (left : Int) (w : World) (hn : n ≤ 9223372036854775807) (h0 : 0 ≤ left) (h1 : left ≤ 1048576) :
    Calls Try.prog 56 #[.slice a n c, .int .i64 left] w fun e w' => e = .returned (.int .i64 (szF left n)) ∧ w = w' := by
  by_cases h : (n : Int) ≤ left
  · go_enter Try.func56, Try.ntmps56
    go_wp2
    go_ret
    exact ⟨ret_int (by rw [szF, if_pos h]), rfl⟩
  · go_enter Try.func56, Try.ntmps56
    go_wp2
    go_ret
    exact ⟨ret_int (by rw [szF, if_neg (by omega)]), rfl⟩
set_option maxHeartbeats 1600000 in
theorem toIntS_calls (v : Value) (xs : List Int) (w : World) (h : IRow w v xs) (hn : xs.length ≤ 1048576) :
    Calls Try.prog 60 #[v] w fun e w' => ∃ v', e = .returned v' ∧ Own w.heap.size 3 1 encI w' v' xs ∧ Below w.heap.size w w' := by
  obtain ⟨a, c, rfl, l, m, r⟩ := h.look
  have R := Lib.hid r; clear r
  have hm : xs.length ≤ 9223372036854775807 := by omega
  have hmk := run_mk (P := Try.prog) 22 3 _ 1 8 Try.underlying22 info_int xs.length (by omega) hn
  go_enter Try.func60, Try.ntmps60
  go_wp2
  go_loopw [4] (fun i wr => ∃ k : Nat, k ≤ xs.length ∧ i = .int .i64 k ∧ Own w.heap.size 3 1 encI wr (.slice (some ⟨w.heap.size, 0, none⟩) k xs.length) (xs.take k) ∧ Below w.heap.size w wr) (fun i _ => xs.length - (intOf i).toNat)
  case atStart => exact ⟨0, Nat.zero_le _, rfl, (by have h := Own.made (e := 3) (k := 1) (enc := encI) w #[.int .i64 0] xs.length hn; rw [Nat.mul_one] at h; exact h), (Below.refl _ _).alloc (Nat.le_refl _) _⟩
  case round =>
    obtain ⟨k, hk, rfl, ho, hb⟩ := hrel
    have HO := Lib.hid ho; clear ho
    have HB := Lib.hid hb; clear hb
    by_cases hlt : k < xs.length
    · obtain ⟨b, o, rfl, hb1, hc1⟩ := R.out (by omega)
      obtain ⟨x, hx⟩ := get_ex hlt
      have hk1 := (HB.out.cell (p := ⟨b, o + k, none⟩) hb1).trans (hc1 k x hx)
      obtain ⟨⟨u, hu⟩, hf⟩ := HO.out.room (i := k) (by omega)
      have HX := Lib.hid hx; clear hx hc1
      go_wp2
      go_roundw
      case rel => exact ⟨k + 1, by omega, by go_num, by rw [take_snoc HX.out]; exact HO.out.next1 hlt rfl, HB.out.setCell (Nat.le_refl _) _⟩
      case measure => simp [intOf]; omega
    · have e : k = xs.length := by omega
      have E := Lib.hid e; clear e
      go_wp2
      go_ret
      refine ⟨_, rfl, ?_, HB.out⟩
      have h := HO.out
      rw [E.out, take_all (Nat.le_refl _)] at h
      exact h
set_option maxHeartbeats 1600000 in
theorem markIntS_calls (base : Nat) (v : Value) (xs : List Int) (q : Int) (w : World) (h : Own base 3 1 encI w v xs) (hn : xs.length ≤ 1048576) (h0 : 0 ≤ q) (h1 : q ≤ 8388608) :
    Calls Try.prog 31 #[v, .int .i64 q] w fun e w' => e = .returned (.int .i64 (q + xs.length)) ∧ Own base 3 1 encI w' v (marksI q xs.length) ∧ w.grownBy w' v.ownBlock := by
  obtain ⟨ad, cp, rfl⟩ := h.form
  have H := Lib.hid h; clear h
  go_enter Try.func31, Try.ntmps31
  go_wp2
  go_loopw [1, 5] (fun s i wr => ∃ k : Nat, k ≤ xs.length ∧ i = .int .i64 k ∧ s = .int .i64 (q + k) ∧ Own base 3 1 encI wr (.slice ad xs.length cp) (marksI q k ++ xs.drop k) ∧ w.grownBy wr (Value.slice ad xs.length cp).ownBlock) (fun _ i _ => xs.length - (intOf i).toNat)
  case atStart => exact ⟨0, Nat.zero_le _, rfl, by simp, by simpa [marksI] using H.out, World.grownBy.refl _ _⟩
  case round =>
    obtain ⟨k, hk, rfl, rfl, ho, hg⟩ := hrel
    have HO := Lib.hid ho
    have HG := Lib.hid hg; clear hg
    by_cases hlt : k < xs.length
    · obtain ⟨x, hx⟩ := get_ex hlt
      have hl : 0 < (marksI q k ++ xs.drop k).length := by simp [marksI_len]; omega
      obtain ⟨g, cp', e, hb1, hb2⟩ := ho.addr hl
      simp only [Value.slice.injEq] at e
      obtain ⟨rfl, hl2, rfl⟩ := e
      obtain ⟨⟨u, hu⟩, hf⟩ := ho.room (i := k) (by have := ho.open.2.2.2.2.2; obtain ⟨cur, _, h2, _⟩ := this; omega)
      clear ho hl2
      have HX := Lib.hid hx; clear hx
      go_wp2
      go_roundw
      case rel =>
        refine ⟨k + 1, by omega, by go_num, by go_num, ?_, grown_set (a := ⟨g, k, none⟩) HG.out rfl _⟩
        rw [marksI_succ, ← set_mid (marksI q k) (xs.drop (k + 1)) x (q + k) k (marksI_len _ _), ← drop_get HX.out]
        exact HO.out.put1 encI_len (by simp [marksI_len]; omega) rfl
      case measure => simp [intOf]; omega
    · have e : k = xs.length := by omega
      have E := Lib.hid e; clear e ho
      go_wp2
      go_ret
      refine ⟨ret_int (by rw [E.out]), ?_, HG.out⟩
      have h := HO.out
      rw [E.out, List.drop_length, List.append_nil] at h
      exact h
set_option maxHeartbeats 1600000 in
theorem heldIntS_calls (v : Value) (n : Nat) (q : Int) (w : World) (h : IRow w v (marksI q n)) (hn : n ≤ 1048576) (h0 : 0 ≤ q) (h1 : q ≤ 8388608) :
    Calls Try.prog 32 #[v, .int .i64 q] w fun e w' => e = .returned (.int .i64 (q + n)) ∧ Below w.heap.size w w' := by
  obtain ⟨a, c, rfl, l, m, r⟩ := h.look
  have R := Lib.hid r; clear r l m
  simp only [marksI_len] at R
  rw [marksI_len]
  go_enter Try.func32, Try.ntmps32
  go_wp2
  go_loopw [1, 5] (fun s i wr => ∃ k : Nat, k ≤ n ∧ i = .int .i64 k ∧ s = .int .i64 (q + k) ∧ ∃ d, wr = w.drewN d) (fun _ i _ => n - (intOf i).toNat)
  case atStart => exact ⟨0, Nat.zero_le _, rfl, by simp, 0, rfl⟩
  case round =>
    obtain ⟨k, hk, rfl, rfl, d, rfl⟩ := hrel
    by_cases hlt : k < n
    · obtain ⟨b, o, rfl, hb1, hc1⟩ := R.out (by omega)
      have hk1 := hc1 k _ (marksI_get hlt)
      clear hc1
      go_wp2
      go_roundw
      case rel => exact ⟨k + 1, by omega, by go_num, by go_num, _, rfl⟩
      case measure => simp [intOf]; omega
    · have e : k = n := by omega
      have E := Lib.hid e; clear e
      go_wp2
      go_ret
      exact ⟨ret_int (by rw [E.out]), below_drewN (Below.refl _ _) _⟩
end Go.Proofs.Ytpgiinklbnlloaa
