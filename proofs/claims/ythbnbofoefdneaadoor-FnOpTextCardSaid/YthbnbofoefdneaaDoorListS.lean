/- spec.l6List: a word and numbers (made by gen_fmtprog.py). -/
import Derived.Test.YthbnbofoefdneaaDoorFmtOpS
import Derived.Test.YthbnbofoefdneaaDoorProgPlain
namespace Go.Proofs.YthbnbofoefdneaaDoor
open Go.RowKit
set_option linter.unusedSimpArgs false
set_option linter.unusedVariables false
def listGo (out : ByteArray) : List Int → ByteArray
  | [] => out
  | n :: r => listGo (out ++ ⟨#[32]⟩ ++ itoaB n) r
def listB (word : ByteArray) (ns : List Int) : ByteArray := if ns.length = 0 then ⟨#[]⟩ else listGo word ns ++ ⟨#[10]⟩
theorem listGo_size : ∀ (ns : List Int) (out : ByteArray), (∀ n ∈ ns, InB n) → (listGo out ns).size ≤ out.size + 22 * ns.length
  | [], out, _ => by simp [listGo]
  | n :: r, out, h => by
    have h1 := listGo_size r (out ++ ⟨#[32]⟩ ++ itoaB n) (fun m hm => h m (List.mem_cons_of_mem _ hm))
    have h2 := itoaB_size (h n List.mem_cons_self).1 (h n List.mem_cons_self).2
    have h3 : (out ++ ⟨#[32]⟩ ++ itoaB n).size = out.size + 1 + (itoaB n).size := by rw [ByteArray.size_append, ByteArray.size_append]; rfl
    simp only [listGo, List.length_cons]; omega
theorem listB_size {word : ByteArray} {ns : List Int} (hw : word.size ≤ 10) (hl : ns.length ≤ 3) (h : ∀ n ∈ ns, InB n) : (listB word ns).size ≤ 77 := by
  unfold listB
  split
  · decide
  · have := listGo_size ns word h
    have e : (⟨#[10]⟩ : ByteArray).size = 1 := rfl
    rw [ByteArray.size_append, e]; omega
theorem inB_of {lo hi : Int} {ns : List Int} (h : InOk lo hi ns) (h0 : -100 ≤ lo) (h1 : hi ≤ 100) : ∀ n ∈ ns, InB n := fun n hn => by have := h.2 n hn; unfold InB; omega
set_option maxHeartbeats 1600000 in
theorem l6List_calls (word : ByteArray) (v : Value) (ns : List Int) (w : World) (h : IRow w v ns) (hl : ns.length ≤ 3) (hw : word.size ≤ 10) (hn : ∀ n ∈ ns, InB n) :
    Calls Tryd.prog 68 #[.string word, v] w fun e w' => e = .returned (.string (listB word ns)) ∧ Below w.heap.size w w' := by
  obtain ⟨a, cp, rfl, l1, l2, l3⟩ := h.look
  have L3 := Lib.hid l3; clear l3 h
  have HN := Lib.hid hn; clear hn
  by_cases h0 : ns.length = 0
  · have d0 : ((ns.length : Int) == 0) = true := beq_iff_eq.2 (by omega)
    have HE : Hid (listB word ns = ⟨#[]⟩) := Lib.hid (by unfold listB; rw [if_pos h0])
    clear h0
    go_enter Tryd.func68, Tryd.ntmps68
    go_wp2
    go_ret
    exact ⟨by rw [HE.out]; rfl, Below.refl _ _⟩
  · have d0 : ((ns.length : Int) == 0) = false := beq_eq_false_iff_ne.2 (by omega)
    have HE : Hid (listB word ns = listGo word ns ++ ⟨#[10]⟩) := Lib.hid (by unfold listB; rw [if_neg h0])
    have d0' : (ns.length == 0) = false := beq_eq_false_iff_ne.2 h0
    have d0n : ¬ ns.length = 0 := h0
    clear h0
    go_enter Tryd.func68, Tryd.ntmps68
    go_wp2
    go_loopw [5, 6] (fun sv iv wr => ∃ (k : Nat) (s : ByteArray), k ≤ ns.length ∧ iv = .int .i64 k ∧ sv = .string s ∧ s.size ≤ 10 + 22 * k ∧ listGo s (ns.drop k) = listGo word ns ∧ Below w.heap.size w wr) (fun _ iv _ => ns.length - (intOf iv).toNat)
    case atStart => exact ⟨0, word, Nat.zero_le _, rfl, rfl, by omega, rfl, Below.refl _ _⟩
    case round =>
      obtain ⟨k, s, hk, rfl, rfl, hs, hg, hb⟩ := hrel
      have HG := Lib.hid hg; have B20 := Lib.hid hb; have S20 := hb.size; clear hg hb
      by_cases hlt : k < ns.length
      · have d1 : decide ((k : Int) < (ns.length : Int)) = true := decide_eq_true (by omega)
        obtain ⟨b, off, rfl, hb1, hc1⟩ := L3.out (by omega)
        obtain ⟨n, hn⟩ := get_ex hlt
        have c0 := (B20.out.cell (p := ⟨b, off + k, none⟩) hb1).trans (hc1 k n hn)
        have HI := Lib.hid (HN.out n (get_mem hn)); have HX := Lib.hid (drop_get hn); clear hn hc1
        obtain ⟨t, ht⟩ : ∃ t, itoaB n = t := ⟨_, rfl⟩
        have htz : t.size ≤ 21 := by rw [← ht]; exact itoaB_size HI.out.1 HI.out.2
        have HT := Lib.hid ht; clear ht
        have hs8 : s.size ≤ 100 := by omega
        go_wp2_with (fail)
        refine (l13Dec_calls n _ HI.out.1 HI.out.2).mono ?_
        rw [HT.out]
        rintro e w1 ⟨rfl, hb⟩
        have B1 := Lib.hid (B20.out.trans (hb.mono S20)); clear hb
        have z1 : (s ++ ⟨#[32]⟩ : ByteArray).size = s.size + 1 := by rw [ByteArray.size_append]; rfl
        go_wp2
        go_roundw
        case rel => exact ⟨k + 1, s ++ ⟨#[32]⟩ ++ t, by omega, by go_num, rfl, by rw [ByteArray.size_append, ByteArray.size_append]; show s.size + 1 + _ ≤ _; omega, by rw [← HG.out, HX.out, listGo, HT.out], B1.out⟩
        case measure => simp [intOf]; omega
      · have d1 : decide ((k : Int) < (ns.length : Int)) = false := decide_eq_false (by omega)
        have hs8 : s.size ≤ 100 := by omega
        have HD : Hid (ns.drop k = []) := Lib.hid (List.drop_eq_nil_iff.2 (by omega))
        go_wp2
        go_ret
        exact ⟨by rw [HE.out, ← HG.out, HD.out]; rfl, B20.out⟩
end Go.Proofs.YthbnbofoefdneaaDoor
