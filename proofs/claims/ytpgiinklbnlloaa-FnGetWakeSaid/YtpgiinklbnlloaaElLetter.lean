/- The exact laws' helpers on Letter and slices of it: what they do (made by gen_el.py). -/
import Derived.Test.YtpgiinklbnlloaaExI
namespace Go.Proofs.Ytpgiinklbnlloaa
open Go.RowKit
set_option linter.unusedSimpArgs false
set_option linter.unusedVariables false
theorem szLetterS_calls (a : Option Addr) (n c : Nat) (left : Int) (w : World) (hn : n ≤ 9223372036854775807) (h0 : 0 ≤ left) (h1 : left ≤ 1048576) :
    Calls Try.prog 57 #[.slice a n c, .int .i64 left] w fun e w' => e = .returned (.int .i64 (szF left n)) ∧ w = w' := by
  by_cases h : (n : Int) ≤ left
  · go_enter Try.func57, Try.ntmps57
    go_wp2
    go_ret
    exact ⟨ret_int (by rw [szF, if_pos h]), rfl⟩
  · go_enter Try.func57, Try.ntmps57
    go_wp2
    go_ret
    exact ⟨ret_int (by rw [szF, if_neg (by omega)]), rfl⟩
theorem info_Letter : (Try.prog.info? 58).map (fun i => (i.zero, i.size, i.bytes)) = some (some (.agg #[.int .i64 0, .int .i64 0]), 2, 16) := by kernel_rfl
theorem toLetter_calls (x : Int × Int) (w : World) :
    Calls Try.prog 74 #[.agg #[.int .i64 x.1, .int .i64 x.2]] w fun e w' => e = .returned (.agg #[.int .i64 x.1, .int .i64 x.2]) ∧ Below w.heap.size w w' := by
  go_enter Try.func74, Try.ntmps74
  go_wp2
  refine bodyPost_ret (v := .agg #[.int .i64 x.1, .int .i64 x.2]) (by simp [results, Try.results74, go_sem]) rfl ⟨rfl, (by repeat (first | (with_reducible assumption) | (with_reducible exact Below.refl _ _) | (refine Below.setCell ?_ (by first | omega | (simp only [szA, szS, szD, World.heap_drewN] at * <;> omega)) _) | (refine Below.alloc ?_ (by first | omega | (simp only [szA, szS, szD, World.heap_drewN] at * <;> omega)) _) | refine Below.drew ?_))⟩
set_option maxHeartbeats 1600000 in
theorem toLetterS_calls (v : Value) (xs : List (Int × Int)) (w : World) (h : PRow w v xs) (hn : xs.length ≤ 1048576) :
    Calls Try.prog 61 #[v] w fun e w' => ∃ v', e = .returned v' ∧ Own w.heap.size 58 2 encP w' v' xs ∧ Below w.heap.size w w' := by
  obtain ⟨a, c, rfl, l, m, r⟩ := h.look
  have R := Lib.hid r; clear r
  have hm : xs.length ≤ 9223372036854775807 := by omega
  have hmk := run_mk (P := Try.prog) 23 58 _ 2 16 Try.underlying23 info_Letter xs.length (by omega) hn
  go_enter Try.func61, Try.ntmps61
  go_wp2
  go_loopw [4] (fun i wr => ∃ k : Nat, k ≤ xs.length ∧ i = .int .i64 k ∧ Own w.heap.size 58 2 encP wr (.slice (some ⟨w.heap.size, 0, none⟩) k xs.length) (xs.take k) ∧ Below w.heap.size w wr ∧ w.heap.size < wr.heap.size) (fun i _ => xs.length - (intOf i).toNat)
  case atStart => exact ⟨0, Nat.zero_le _, rfl, Own.made w _ _ hn, (Below.refl _ _).alloc (Nat.le_refl _) _, by simp⟩
  case round =>
    obtain ⟨k, hk, rfl, ho, hb, hz⟩ := hrel
    have HO := Lib.hid ho; clear ho
    have HB := Lib.hid hb; clear hb
    by_cases hlt : k < xs.length
    · obtain ⟨b, o, rfl, hb1, hc1⟩ := R.out (by omega)
      obtain ⟨x, hx⟩ := get_ex hlt
      have hk1 := (HB.out.cell (p := ⟨b, o + k * 2, none⟩) hb1).trans (hc1 k x hx).1
      have hk2 := (HB.out.cell (p := ⟨b, o + k * 2 + 1, none⟩) hb1).trans (hc1 k x hx).2
      have HX := Lib.hid hx; clear hx hc1
      go_wp2_with (go_at_call 74; refine (toLetter_calls x _).mono ?_; rintro e w1 ⟨rfl, hb⟩; have HB1 := Lib.hid hb; have hz1 := hb.size; clear hb; have HO1 := Lib.hid (HO.out.kept HB1.out); obtain ⟨⟨u0, hu0⟩, hf0⟩ := HO1.out.room (i := k * 2) (by omega); obtain ⟨⟨u1, hu1⟩, hf1⟩ := HO1.out.room (i := k * 2 + 1) (by omega))
      go_roundw
      case rel => exact ⟨k + 1, by omega, by go_num, by rw [take_snoc HX.out]; exact HO1.out.next2 hlt rfl, ((HB.out.trans (HB1.out.mono (by omega))).setCell (p := ⟨w.heap.size, k * 2, none⟩) (Nat.le_refl _) _).setCell (p := ⟨w.heap.size, k * 2 + 1, none⟩) (Nat.le_refl _) _, by simp only [szS]; omega⟩
      case measure => simp [intOf]; omega
    · have e : k = xs.length := by omega
      have E := Lib.hid e; clear e
      go_wp2
      go_ret
      refine ⟨_, rfl, ?_, HB.out⟩
      have h := HO.out
      rw [E.out, take_all (Nat.le_refl _)] at h
      exact h
theorem eqLetter_calls (x y : Int × Int) (w : World) :
    Calls Try.prog 72 #[.agg #[.int .i64 x.1, .int .i64 x.2], .agg #[.int .i64 y.1, .int .i64 y.2]] w fun e w' => e = .returned (.bool (decide (x = y))) ∧ Below w.heap.size w w' := by
  by_cases h1 : x.1 = y.1
  · by_cases h2 : x.2 = y.2
    · have e : decide (x = y) = true := decide_eq_true (Prod.ext h1 h2)
      have d1 : (x.1 != y.1) = false := by simpa using h1
      have d2 : (x.2 != y.2) = false := by simpa using h2
      rw [e]
      clear e h1 h2
      go_enter Try.func72, Try.ntmps72
      go_wp2
      go_ret
      exact ⟨rfl, (by repeat (first | (with_reducible assumption) | (with_reducible exact Below.refl _ _) | (refine Below.setCell ?_ (by first | omega | (simp only [szA, szS, szD, World.heap_drewN] at * <;> omega)) _) | (refine Below.alloc ?_ (by first | omega | (simp only [szA, szS, szD, World.heap_drewN] at * <;> omega)) _) | refine Below.drew ?_))⟩
    · have e : decide (x = y) = false := decide_eq_false fun e => h2 (by rw [e])
      have d1 : (x.1 != y.1) = false := by simpa using h1
      have d2 : (x.2 != y.2) = true := by simpa using h2
      rw [e]
      clear e h1 h2
      go_enter Try.func72, Try.ntmps72
      go_wp2
      go_ret
      exact ⟨rfl, (by repeat (first | (with_reducible assumption) | (with_reducible exact Below.refl _ _) | (refine Below.setCell ?_ (by first | omega | (simp only [szA, szS, szD, World.heap_drewN] at * <;> omega)) _) | (refine Below.alloc ?_ (by first | omega | (simp only [szA, szS, szD, World.heap_drewN] at * <;> omega)) _) | refine Below.drew ?_))⟩
  · have e : decide (x = y) = false := decide_eq_false fun e => h1 (by rw [e])
    have d1 : (x.1 != y.1) = true := by simpa using h1
    rw [e]
    clear e h1
    go_enter Try.func72, Try.ntmps72
    go_wp2
    go_ret
    exact ⟨rfl, (by repeat (first | (with_reducible assumption) | (with_reducible exact Below.refl _ _) | (refine Below.setCell ?_ (by first | omega | (simp only [szA, szS, szD, World.heap_drewN] at * <;> omega)) _) | (refine Below.alloc ?_ (by first | omega | (simp only [szA, szS, szD, World.heap_drewN] at * <;> omega)) _) | refine Below.drew ?_))⟩
set_option maxHeartbeats 1600000 in
theorem eqLetterS_calls (v1 v2 : Value) (p q : List (Int × Int)) (w : World) (h1 : PRow w v1 p) (h2 : PRow w v2 q) :
    Calls Try.prog 42 #[v1, v2] w fun e w' => e = .returned (.bool (decide (p = q))) ∧ Below w.heap.size w w' := by
  obtain ⟨a1, c1, rfl, l1, m1, r1⟩ := h1.look
  obtain ⟨a2, c2, rfl, l2, m2, r2⟩ := h2.look
  have R1 := Lib.hid r1; clear r1
  have R2 := Lib.hid r2; clear r2
  have hm : p.length ≤ 9223372036854775807 := by omega
  by_cases hl : p.length = q.length
  · have hd := len_bne hl
    have HL := Lib.hid hl; clear hl
    go_enter Try.func42, Try.ntmps42
    go_wp2
    go_loopw [5] (fun i wr => ∃ k : Nat, k ≤ p.length ∧ i = .int .i64 k ∧ p.take k = q.take k ∧ Below w.heap.size w wr) (fun i _ => p.length - (intOf i).toNat)
    case atStart => exact ⟨0, Nat.zero_le _, rfl, rfl, Below.refl _ _⟩
    case round =>
      obtain ⟨k, hk, rfl, he, hb⟩ := hrel
      have HE := Lib.hid he; clear he
      have HB := Lib.hid hb; clear hb
      have hz := HB.out.size
      by_cases hlt : k < p.length
      · have hlt2 : k < q.length := by have := HL.out; omega
        obtain ⟨b1, o1, rfl, hb1, hc1⟩ := R1.out (by omega)
        obtain ⟨b2, o2, rfl, hb2, hc2⟩ := R2.out (by omega)
        obtain ⟨x, hx⟩ := get_ex hlt
        obtain ⟨y, hy⟩ := get_ex hlt2
        have k1 := later_cell (B := wr.heap.size) ((HB.out.cell (p := ⟨b1, o1 + k * 2, none⟩) hb1).trans (hc1 k x hx).1) (Nat.lt_of_lt_of_le hb1 hz)
        have k2 := later_cell (B := wr.heap.size) ((HB.out.cell (p := ⟨b1, o1 + k * 2 + 1, none⟩) hb1).trans (hc1 k x hx).2) (Nat.lt_of_lt_of_le hb1 hz)
        have k3 := later_cell (B := wr.heap.size) ((HB.out.cell (p := ⟨b2, o2 + k * 2, none⟩) hb2).trans (hc2 k y hy).1) (Nat.lt_of_lt_of_le hb2 hz)
        have k4 := later_cell (B := wr.heap.size) ((HB.out.cell (p := ⟨b2, o2 + k * 2 + 1, none⟩) hb2).trans (hc2 k y hy).2) (Nat.lt_of_lt_of_le hb2 hz)
        have HX := Lib.hid hx; clear hx hc1
        have HY := Lib.hid hy; clear hy hc2
        go_wp2
        refine wp_region_later wr.heap.size (by kernel_rfl) (by kernel_rfl) ?_
        repeat (go_big_quiet_step ((go_at_call 72; refine (eqLetter_calls x y _).mono ?_; rintro e w' ⟨rfl, hb⟩; exact later_call hb)))
        refine wpQuiet_nil ?_
        rintro _ ⟨z, rfl⟩
        go_wp2
        · go_ret
          exact ⟨ret_bool (ne_false HX.out HY.out (by simpa using ‹(!decide (x = y)) = true›)).symm, HB.out.trans (z.2.mono hz)⟩
        · go_roundw
          case rel => exact ⟨k + 1, by omega, by go_num, take_eq HE.out HX.out HY.out (by simpa using ‹(!decide (x = y)) = false›), HB.out.trans (z.2.mono hz)⟩
          case measure => simp [intOf]; omega
      · go_wp2
        go_ret
        exact ⟨ret_bool (all_eq HL.out (by omega) HE.out).symm, HB.out⟩
  · have hd := len_bne' hl
    go_enter Try.func42, Try.ntmps42
    go_wp2
    go_ret
    exact ⟨ret_bool (len_false hl).symm, Below.refl _ _⟩
set_option maxHeartbeats 1600000 in
theorem markLetterS_calls (base : Nat) (v : Value) (xs : List (Int × Int)) (q : Int) (w : World) (h : Own base 58 2 encP w v xs) (hn : xs.length ≤ 1048576) (h0 : 0 ≤ q) (h1 : q ≤ 8388608) :
    Calls Try.prog 43 #[v, .int .i64 q] w fun e w' => e = .returned (.int .i64 (q + 2 * xs.length)) ∧ Own base 58 2 encP w' v (marksP q xs.length) ∧ w.grownBy w' v.ownBlock := by
  obtain ⟨ad, cp, rfl⟩ := h.form
  have H := Lib.hid h; clear h
  go_enter Try.func43, Try.ntmps43
  go_wp2
  go_loopw [1, 5] (fun s i wr => ∃ k : Nat, k ≤ xs.length ∧ i = .int .i64 k ∧ s = .int .i64 (q + 2 * k) ∧ Own base 58 2 encP wr (.slice ad xs.length cp) (marksP q k ++ xs.drop k) ∧ w.grownBy wr (Value.slice ad xs.length cp).ownBlock) (fun _ i _ => xs.length - (intOf i).toNat)
  case atStart => exact ⟨0, Nat.zero_le _, rfl, by simp, by simpa [marksP] using H.out, World.grownBy.refl _ _⟩
  case round =>
    obtain ⟨k, hk, rfl, rfl, ho, hg⟩ := hrel
    have HO := Lib.hid ho
    have HG := Lib.hid hg; clear hg
    by_cases hlt : k < xs.length
    · obtain ⟨x, hx⟩ := get_ex hlt
      have hl : 0 < (marksP q k ++ xs.drop k).length := by simp [marksP_len]; omega
      obtain ⟨g, cp', e, hb1, hb2⟩ := ho.addr hl
      simp only [Value.slice.injEq] at e
      obtain ⟨rfl, hl2, rfl⟩ := e
      have hcap : xs.length ≤ cp := by obtain ⟨cur, _, h2, _⟩ := ho.open.2.2.2.2.2; exact h2
      obtain ⟨⟨u0, hu0⟩, hf0⟩ := ho.room (i := k * 2) (by omega)
      obtain ⟨⟨u1, hu1⟩, hf1⟩ := ho.room (i := k * 2 + 1) (by omega)
      clear ho hl2
      have HX := Lib.hid hx; clear hx
      go_wp2
      go_roundw
      case rel =>
        refine ⟨k + 1, by omega, by go_num, by first | go_num | (simp; omega), ?_, grown_set (a := ⟨g, k * 2 + 1, none⟩) (grown_set (a := ⟨g, k * 2, none⟩) HG.out rfl _) rfl _⟩
        have s1 := HO.out.put encP_len (i := k) (j := 0) (u := .int .i64 (q + 2 * k)) (x := x) (y := (q + 2 * k, x.2)) (by rw [List.getElem?_append_right (by rw [marksP_len]; exact Nat.le_refl _), marksP_len, Nat.sub_self, drop_get HX.out]; rfl) (by decide) rfl
        have s2 := s1.put encP_len (i := k) (j := 1) (u := .int .i64 (q + 2 * k + 1)) (x := (q + 2 * k, x.2)) (y := (q + 2 * k, q + 2 * k + 1)) (by rw [List.getElem?_set_self (by simp [marksP_len]; omega)]) (by decide) rfl
        rw [List.set_set, drop_get HX.out, set_mid _ _ _ _ k (marksP_len _ _), ← marksP_succ] at s2
        exact s2
      case measure => simp [intOf]; omega
    · have e : k = xs.length := by omega
      have E := Lib.hid e; clear e ho
      go_wp2
      go_ret
      refine ⟨ret_int (by rw [E.out]), ?_, HG.out⟩
      have h := HO.out
      rw [E.out, List.drop_length, List.append_nil] at h
      exact h
set_option maxHeartbeats 1600000 in
theorem heldLetterS_calls (v : Value) (n : Nat) (q : Int) (w : World) (h : PRow w v (marksP q n)) (hn : n ≤ 1048576) (h0 : 0 ≤ q) (h1 : q ≤ 8388608) :
    Calls Try.prog 44 #[v, .int .i64 q] w fun e w' => e = .returned (.int .i64 (q + 2 * n)) ∧ Below w.heap.size w w' := by
  obtain ⟨a, c, rfl, l, m, r⟩ := h.look
  have R := Lib.hid r; clear r l m
  simp only [marksP_len] at R
  rw [marksP_len]
  go_enter Try.func44, Try.ntmps44
  go_wp2
  go_loopw [1, 5] (fun s i wr => ∃ k : Nat, k ≤ n ∧ i = .int .i64 k ∧ s = .int .i64 (q + 2 * k) ∧ ∃ d, wr = w.drewN d) (fun _ i _ => n - (intOf i).toNat)
  case atStart => exact ⟨0, Nat.zero_le _, rfl, by simp, 0, rfl⟩
  case round =>
    obtain ⟨k, hk, rfl, rfl, d, rfl⟩ := hrel
    by_cases hlt : k < n
    · obtain ⟨b, o, rfl, hb1, hc1⟩ := R.out (by omega)
      have hk1 := (hc1 k _ (marksP_get hlt)).1
      have hk2 := (hc1 k _ (marksP_get hlt)).2
      clear hc1
      go_wp2
      go_roundw
      case rel => exact ⟨k + 1, by omega, by go_num, by first | go_num | (simp; omega), _, rfl⟩
      case measure => simp [intOf]; omega
    · have e : k = n := by omega
      have E := Lib.hid e; clear e
      go_wp2
      go_ret
      exact ⟨ret_int (by rw [E.out]), below_drewN (Below.refl _ _) _⟩
end Go.Proofs.Ytpgiinklbnlloaa
