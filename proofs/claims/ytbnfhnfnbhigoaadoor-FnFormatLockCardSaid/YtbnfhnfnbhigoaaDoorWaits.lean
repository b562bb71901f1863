/- Values, places in a list of ints, lists of different threads (spec.l2Waits), copies of lists: what they return. -/
import Derived.Test.YtbnfhnfnbhigoaaDoorSemPlain
import Derived.Test.YtbnfhnfnbhigoaaDoorInfo
import Derived.Test.YtbnfhnfnbhigoaaDoorSpan
import Derived.Deep.RegionHeld3
import Derived.Deep.DrawnRows
namespace Go.Proofs.YtbnfhnfnbhigoaaDoor
open Go.RowKit
set_option linter.unusedSimpArgs false
set_option linter.unusedVariables false
theorem Row.pre {α : Type} {k n c : Nat} {enc : α → List Value} {w : World} {a : Option Addr} {xs : List α} (h : Row k enc w (.slice a xs.length c) xs) (hn : n ≤ xs.length) : Row k enc w (.slice a n c) (xs.take n) := by
  obtain ⟨a', cap, e, h1, h2, h3, h4⟩ := h
  simp only [Value.slice.injEq] at e
  obtain ⟨rfl, _, rfl⟩ := e
  have hl : (xs.take n).length = n := by simp; omega
  refine ⟨a, c, by rw [hl], by omega, h2, h3, fun hp => ?_⟩
  obtain ⟨b, off, e2, hlt, hc⟩ := h4 (by omega)
  refine ⟨b, off, e2, hlt, fun i x hx => hc i x ?_⟩
  rw [List.getElem?_take] at hx
  split at hx
  · exact hx
  · cases hx
theorem nodup_six : ∀ (n : Nat) (xs : List Int), xs.Nodup → (∀ x ∈ xs, 0 ≤ x ∧ x < (n : Int)) → xs.length ≤ n
  | 0, xs, _, h => by
    cases xs with
    | nil => simp
    | cons x r => have := h x (by simp); omega
  | n + 1, xs, hn, h => by
    have hl : (xs.erase (n : Int)).length ≤ n := nodup_six n _ (hn.erase _) fun x hx => by
      have h1 := (List.Nodup.mem_erase_iff hn).1 hx
      have h2 := h x h1.2
      have h3 := h1.1
      omega
    rw [List.length_erase] at hl
    split at hl <;> omega
theorem Distinct.six {xs : List Int} (h : Distinct xs) : xs.length ≤ 6 := nodup_six 6 xs h.2 fun x hx => by
  have := h.1 x hx; unfold Thr at this; omega

def Val (x : Int) : Prop := 0 ≤ x ∧ x ≤ 99
instance (t : Int) : Decidable (Val t) := by unfold Val; infer_instance
def valB (x : Int) : Bool := decide (0 ≤ x) && decide (x ≤ 99)
theorem valB_true {t : Int} : valB t = true ↔ Val t := by simp [valB, Val]
theorem valB_false {t : Int} : valB t = false ↔ ¬ Val t := by rw [← valB_true]; simp

/-- The place of a number in a list, or -1. -/
def placeFrom (t : Int) : Nat → List Int → Int
  | _, [] => -1
  | n, x :: r => if x = t then n else placeFrom t (n + 1) r
def place (t : Int) (q : List Int) : Int := placeFrom t 0 q
theorem placeFrom_no {t : Int} : ∀ {q : List Int} (n : Nat), (∀ x ∈ q, x ≠ t) → placeFrom t n q = -1
  | [], _, _ => rfl
  | x :: r, n, h => by
    simp only [placeFrom, if_neg (h x (by simp))]
    exact placeFrom_no (n + 1) fun y hy => h y (by simp [hy])
theorem placeFrom_at {t : Int} {x : Int} : ∀ {q : List Int} (n k : Nat), q[k]? = some x → (∀ y ∈ q.take k, y ≠ t) → x = t → placeFrom t n q = ((n + k : Nat) : Int)
  | [], _, _, h, _, _ => by simp at h
  | y :: r, n, 0, h, _, e => by
    simp only [List.getElem?_cons_zero, Option.some.injEq] at h
    subst h
    simp [placeFrom, e]
  | y :: r, n, k + 1, h, hn, e => by
    simp only [List.getElem?_cons_succ] at h
    simp only [placeFrom, if_neg (hn y (by simp))]
    rw [placeFrom_at (n + 1) k h (fun z hz => hn z (by simp [hz])) e]
    congr 1; omega
theorem place_no {t : Int} {q : List Int} (h : ∀ x ∈ q, x ≠ t) : place t q = -1 := placeFrom_no 0 h
theorem place_at {t : Int} {q : List Int} {k : Nat} {x : Int} (h : q[k]? = some x) (hn : ∀ y ∈ q.take k, y ≠ t) (e : x = t) : place t q = (k : Int) := by
  rw [place, placeFrom_at 0 k h hn e, Nat.zero_add]
theorem place_in {t : Int} {q : List Int} (h : t ∈ q) : 0 ≤ place t q := by
  have : ∀ (q : List Int) (n : Nat), t ∈ q → 0 ≤ placeFrom t n q := by
    intro q
    induction q with
    | nil => intro n h; cases h
    | cons y r ih =>
      intro n h
      unfold placeFrom
      split
      · omega
      · rcases List.mem_cons.1 h with h | h
        · subst h; contradiction
        · exact ih _ h
  exact this q 0 h
theorem place_out {t : Int} {q : List Int} (h : t ∉ q) : place t q = -1 := place_no fun x hx e => h (e ▸ hx)
theorem place_lt {t : Int} {q : List Int} : place t q < q.length := by
  have : ∀ (q : List Int) (n : Nat), placeFrom t n q < ((n + q.length : Nat) : Int) := by
    intro q
    induction q with
    | nil => intro n; simp only [placeFrom]; omega
    | cons y r ih =>
      intro n
      unfold placeFrom
      split
      · simp only [List.length_cons]; omega
      · have := ih (n + 1); simp only [List.length_cons]; omega
  have := this q 0
  simpa [place] using this
theorem l2At_calls (v : Value) (q : List Int) (t : Int) (w : World) (h : IRow w v q) :
    Calls Tryd.prog 53 #[v, .int .i64 t] w fun e w' => e = .returned (.int .i64 (place t q)) ∧ w = w' := by
  obtain ⟨a, c, rfl, l, m, r⟩ := h.look
  have R := Lib.hid r; clear r
  have hm : q.length ≤ 9223372036854775807 := by omega
  go_enter Tryd.func53, Tryd.ntmps53
  go_wp2
  go_loop [5] (fun i => ∃ k : Nat, k ≤ q.length ∧ i = .int .i64 k ∧ (∀ x ∈ q.take k, x ≠ t)) (fun i => q.length - (intOf i).toNat)
  case atStart => exact ⟨0, Nat.zero_le _, rfl, by simp⟩
  case round =>
    obtain ⟨k, hk, rfl, hj⟩ := hrel
    have HJ := Lib.hid hj; clear hj
    by_cases hlt : k < q.length
    · obtain ⟨b, o, rfl, hb1, hc1⟩ := R.out (by omega)
      obtain ⟨x, hx⟩ := get_ex hlt
      have hk1 := hc1 k x hx
      have HX := Lib.hid hx; clear hx hc1
      go_wp2
      · go_ret
        exact ⟨ret_int (place_at HX.out HJ.out (by simpa using ‹(x == t) = true›)).symm, rfl⟩
      · go_round
        case rel => exact ⟨k + 1, by omega, by go_num, all_snoc HX.out HJ.out (by simpa using ‹(x == t) = false›)⟩
        case measure => simp [intOf]; omega
    · go_wp2
      go_ret
      have h := HJ.out
      rw [take_all (by omega)] at h
      exact ⟨ret_int (place_no h).symm, rfl⟩
theorem cloneInts_calls (v : Value) (xs : List Int) (w : World) (h : IRow w v xs) (hn : xs.length ≤ 1048576) :
    Calls Tryd.prog 38 #[v] w fun e w' => ∃ v', e = .returned v' ∧ LOwn w.heap.size w'.heap.size w' v' xs ∧ Below w.heap.size w w' := by
  have H := Lib.hid h
  obtain ⟨a, c, rfl, _⟩ := h
  go_enter Tryd.func38, Tryd.ntmps38
  go_wp2_with (at_builtin; refine wpList_clone _ encI_len encI_one rfl _ _ 22 rfl 3 _ 8 Tryd.underlying22 info_int rfl (by decide) rfl _ xs rfl H.out (by decide) (by omega) ?_; intro ad cap w1 hown hb; have HO := Lib.hid hown; clear hown; have HB1 := Lib.hid hb; clear hb)
  go_ret
  exact ⟨_, rfl, LOwn.of HO.out (Nat.le_refl _), HB1.out⟩
theorem distB_end {xs : List Int} (h : Distinct xs) : distB xs = true := by simp [distB, h]
set_option maxHeartbeats 3200000 in
theorem l2Waits_calls (v : Value) (xs : List Int) (w : World) (h : IRow w v xs) :
    Calls Tryd.prog 42 #[v] w fun e w' => e = .returned (.bool (distB xs)) ∧ Below w.heap.size w w' := by
  have H := Lib.hid h
  obtain ⟨a, c, rfl, l, m, r⟩ := h.look
  have R := Lib.hid r; clear r
  have hm : xs.length ≤ 9223372036854775807 := by omega
  go_enter Tryd.func42, Tryd.ntmps42
  go_wp2
  go_loopw [3] (fun i wr => ∃ k : Nat, k ≤ xs.length ∧ i = .int .i64 k ∧ Distinct (xs.take k) ∧ Below w.heap.size w wr) (fun i _ => xs.length - (intOf i).toNat)
  case atStart => exact ⟨0, Nat.zero_le _, rfl, by simp [Distinct], Below.refl _ _⟩
  case round =>
    obtain ⟨k, hk, rfl, hd, hb⟩ := hrel
    have h6 : k ≤ 6 := by have := hd.six; rw [List.length_take] at this; omega
    have HD := Lib.hid hd; clear hd
    have HB := Lib.hid hb; clear hb
    have hz := HB.out.size
    by_cases hlt : k < xs.length
    · obtain ⟨b, o, rfl, hb1, hc1⟩ := R.out (by omega)
      obtain ⟨x, hx⟩ := get_ex hlt
      have hk1 := later_cell (B := wr.heap.size) (((HB.out).cell (p := ⟨b, o + k, none⟩) hb1).trans (hc1 k x hx)) (Nat.lt_of_lt_of_le hb1 hz)
      have HX := Lib.hid hx; clear hx hc1
      have HP := Lib.hid (Row.below (Row.pre H.out (n := k) (by omega)) HB.out)
      have hcap : (k : Int) ≤ (c : Int) := by omega
      cases ht : thrB x
      · have HT := Lib.hid ht; clear ht
        go_wp2
        refine wp_region_later wr.heap.size (by kernel_rfl) (by kernel_rfl) ?_
        repeat (go_big_quiet_step ((go_at_call 52; refine (l1Thread_calls _ _).mono ?_; rintro e w' ⟨rfl, rfl⟩; rw [HT.out]; exact later_call (Below.refl _ _))))
        refine wpQuiet_nil ?_
        rintro _ ⟨z, rfl⟩
        go_wp2
        go_ret
        exact ⟨ret_bool (Distinct.bad_thr HX.out HT.out).symm, HB.out.trans (z.2.mono hz)⟩
      · have HT := Lib.hid ht; clear ht
        by_cases hin : x ∈ xs.take k
        · have hp := place_in hin
          have HI := Lib.hid hin; clear hin
          obtain ⟨p, hpe⟩ : ∃ p, place x (xs.take k) = p := ⟨_, rfl⟩
          rw [hpe] at hp
          have HPE := Lib.hid hpe; clear hpe
          have d : decide ((0 : Int) ≤ p) = true := decide_eq_true hp
          go_wp2
          refine wp_region_later wr.heap.size (by kernel_rfl) (by kernel_rfl) ?_
          repeat (go_big_quiet_step ((first | (go_at_call 52; refine (l1Thread_calls _ _).mono ?_; rintro e w' ⟨rfl, rfl⟩; rw [HT.out]; exact later_call (Below.refl _ _)) | (go_at_call 53; refine (l2At_calls _ (xs.take k) x _ (HP.out.later _)).mono ?_; rintro e w' ⟨rfl, rfl⟩; rw [HPE.out]; exact later_call (Below.refl _ _)))))
          refine wpQuiet_nil ?_
          rintro _ ⟨z, rfl⟩
          go_wp2
          go_ret
          exact ⟨ret_bool (Distinct.bad_in HX.out HI.out).symm, HB.out.trans (z.2.mono hz)⟩
        · have hp := place_out hin
          have HI := Lib.hid hin; clear hin
          have HPE := Lib.hid hp; clear hp
          go_wp2
          refine wp_region_later wr.heap.size (by kernel_rfl) (by kernel_rfl) ?_
          repeat (go_big_quiet_step ((first | (go_at_call 52; refine (l1Thread_calls _ _).mono ?_; rintro e w' ⟨rfl, rfl⟩; rw [HT.out]; exact later_call (Below.refl _ _)) | (go_at_call 53; refine (l2At_calls _ (xs.take k) x _ (HP.out.later _)).mono ?_; rintro e w' ⟨rfl, rfl⟩; rw [HPE.out]; exact later_call (Below.refl _ _)))))
          refine wpQuiet_nil ?_
          rintro _ ⟨z, rfl⟩
          go_wp2
          go_roundw
          case rel => exact ⟨k + 1, by omega, by go_num, by rw [take_snoc HX.out]; exact HD.out.snoc HT.out HI.out, HB.out.trans (z.2.mono hz)⟩
          case measure => simp [intOf]; omega
    · have e1 : xs.take k = xs := take_all (by omega)
      have hd := HD.out
      rw [e1] at hd
      have h7 := hd.six
      have HD2 := Lib.hid hd; clear hd e1
      go_wp2
      go_ret
      exact ⟨ret_bool (by rw [distB_end HD2.out]; first | rfl | (simp; omega)), HB.out⟩
end Go.Proofs.YtbnfhnfnbhigoaaDoor
