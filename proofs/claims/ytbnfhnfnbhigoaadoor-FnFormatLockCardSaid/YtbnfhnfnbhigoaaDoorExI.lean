/- The exact laws' helpers on slices of ints: what they do. -/
import Derived.Test.YtbnfhnfnbhigoaaDoorOwn2
import Derived.Test.YtbnfhnfnbhigoaaDoorEq
import Derived.Test.YtbnfhnfnbhigoaaDoorInfo
import Derived.Deep.RegionHeld3
import Derived.Deep.DrawnRows
import Derived.Deep.LoopGhost
namespace Go.Proofs.YtbnfhnfnbhigoaaDoor
open Go.RowKit
set_option linter.unusedSimpArgs false
set_option linter.unusedVariables false
theorem szIntS_calls (a : Option Addr) (n c : Nat) (left : Int) (w : World) (hn : n ≤ 9223372036854775807) (h0 : 0 ≤ left) (h1 : left ≤ 1048576) :
    Calls Tryd.prog 19 #[.slice a n c, .int .i64 left] w fun e w' => e = .returned (.int .i64 (szF left n)) ∧ w = w' := by
  by_cases h : (n : Int) ≤ left
  · go_enter Tryd.func19, Tryd.ntmps19
    go_wp2
    go_ret
    exact ⟨ret_int (by rw [szF, if_pos h]), rfl⟩
  · go_enter Tryd.func19, Tryd.ntmps19
    go_wp2
    go_ret
    exact ⟨ret_int (by rw [szF, if_neg (by omega)]), rfl⟩
set_option maxHeartbeats 1600000 in
theorem toIntS_calls (v : Value) (xs : List Int) (w : World) (h : IRow w v xs) (hn : xs.length ≤ 1048576) :
    Calls Tryd.prog 23 #[v] w fun e w' => ∃ v', e = .returned v' ∧ Own w.heap.size 3 1 encI w' v' xs ∧ Below w.heap.size w w' := by
  obtain ⟨a, c, rfl, l, m, r⟩ := h.look
  have R := Lib.hid r; clear r
  have hm : xs.length ≤ 9223372036854775807 := by omega
  have hmk := run_mk (P := Tryd.prog) 22 3 _ 1 8 Tryd.underlying22 info_int xs.length (by omega) hn
  go_enter Tryd.func23, Tryd.ntmps23
  go_wp2
  go_loopw [4] (fun i wr => ∃ k : Nat, k ≤ xs.length ∧ i = .int .i64 k ∧ Own w.heap.size 3 1 encI wr (.slice (some ⟨w.heap.size, 0, none⟩) k xs.length) (xs.take k) ∧ Below w.heap.size w wr) (fun i _ => xs.length - (intOf i).toNat)
  case atStart => exact ⟨0, Nat.zero_le _, rfl, (by have h := Own.made (e := 3) (k := 1) (enc := encI) w #[.int .i64 0] xs.length hn; rw [Nat.mul_one] at h; exact h), (Below.refl _ _).alloc (Nat.le_refl _) _⟩
  case round =>
    obtain ⟨k, hk, rfl, ho, hb⟩ := hrel
    have HO := Lib.hid ho; clear ho
    have HB := Lib.hid hb; clear hb
    by_cases hlt : k < xs.length
    · obtain ⟨b, o, rfl, hb1, hc1⟩ := R.out (by omega)
      obtain ⟨x, hx⟩ := get_ex hlt
      have hk1 := (HB.out.cell (p := ⟨b, o + k, none⟩) hb1).trans (hc1 k x hx)
      obtain ⟨⟨u, hu⟩, hf⟩ := HO.out.room (i := k) (by omega)
      have HX := Lib.hid hx; clear hx hc1
      go_wp2
      go_roundw
      case rel => exact ⟨k + 1, by omega, by go_num, by rw [take_snoc HX.out]; exact HO.out.next1 hlt rfl, HB.out.setCell (Nat.le_refl _) _⟩
      case measure => simp [intOf]; omega
    · have e : k = xs.length := by omega
      have E := Lib.hid e; clear e
      go_wp2
      go_ret
      refine ⟨_, rfl, ?_, HB.out⟩
      have h := HO.out
      rw [E.out, take_all (Nat.le_refl _)] at h
      exact h
end Go.Proofs.YtbnfhnfnbhigoaaDoor
