/- spec.l13Cut: the pieces of a text (made by gen_cut.py). -/
import Derived.Test.YthbnbofoefdneaaDoorCutP
import Derived.Test.YthbnbofoefdneaaDoorG1
namespace Go.Proofs.YthbnbofoefdneaaDoor
open Go.RowKit
set_option linter.unusedSimpArgs false
set_option linter.unusedVariables false
set_option maxHeartbeats 3200000 in
theorem l13Cut_calls (s : ByteArray) (c : Int) (w : World) (hs : s.size ≤ 2000000) :
    Calls Tryd.prog 15 #[.string s, .int .u8 c] w fun e w' => ∃ v, e = .returned v ∧ Own w.heap.size 9 1 encZ w' v (cutB s c) ∧ Below w.heap.size w w' := by
  go_enter Tryd.func15, Tryd.ntmps15
  go_wp2
  go_loopw [5, 6, 7] (fun ov fv i wr => ∃ (k f : Nat) (out : List ByteArray) (ao : Option Addr) (po : Nat), i = .int .i64 k ∧ fv = .int .i64 f ∧ ov = .slice ao out.length po ∧ CutInv s c k f out ∧ Own w.heap.size 9 1 encZ wr (.slice ao out.length po) out ∧ Below w.heap.size w wr) (fun _ _ i _ => s.size + 1 - (intOf i).toNat)
  case atStart => exact ⟨0, 0, [], _, _, rfl, rfl, rfl, CutInv.start s c, Own.empty (heap_at w _) (Nat.le_refl _), (Below.refl _ _).alloc (Nat.le_refl _) _⟩
  case round =>
    obtain ⟨w20, rfl⟩ : ∃ x : World, x = wr := ⟨_, rfl⟩
    obtain ⟨k, f, out, ao, po, rfl, rfl, rfl, hi, ho, hb⟩ := hrel
    have B20 := Lib.hid hb; have S20 := hb.size; have Oo_20 := Lib.hid ho
    obtain ⟨hk1, hol, hfk⟩ := hi.le
    have HI := Lib.hid hi
    clear hb ho hi
    by_cases hle : k ≤ s.size
    · have d1 : decide ((k : Int) ≤ (s.size : Int)) = true := decide_eq_true (by omega)
      by_cases hlast : k = s.size
      · subst hlast
        have hf2 := hfk (Nat.le_refl _)
        obtain ⟨p, hp⟩ : ∃ p, s.extract f s.size = p := ⟨_, rfl⟩
        have HL := Lib.hid (hp ▸ HI.out.last)
        have d2 : ((s.size : Int) == (s.size : Int)) = true := beq_self_eq_true _
        have HP := Lib.hid hp; clear hp
        go_wp2_with (at_builtin; refine wpList_snoc _ encZ_len one_str rfl _ _ 40 rfl 9 _ 16 Tryd.underlying40 info_string rfl (by decide) w.heap.size (.slice ao out.length po) out rfl Oo_20.out (s.extract f s.size) _ rfl _ rfl (by first | omega | (simp only [szA, szS, szD, World.heap_drewN] at * <;> omega)) (by decide) (by omega) (by first | omega | (simp only [szA, szS, szD, World.heap_drewN] at * <;> omega)) ?_; intro ad21 cp21 w21 hown hg hat; obtain ⟨oL21, hoL21⟩ : ∃ l, out ++ [(s.extract f s.size)] = l := ⟨_, rfl⟩; have loL21 : out.length + 1 = oL21.length := (by rw [← hoL21, List.length_append, List.length_singleton]); rw [hoL21, loL21] at hown; rw [loL21]; have HoL21 := Lib.hid hoL21; clear hoL21; have KoL21 := Lib.hid loL21; clear loL21; rw [KoL21.out] at hat; clear hat; have Oo_21 := Lib.hid hown; have B21 := Lib.hid (Below.grown (Below.alloc B20.out (by first | omega | (simp only [szA, szS, szD, World.heap_drewN] at * <;> omega)) _) hg (by first | omega | (simp only [szA, szS, szD, World.heap_drewN]; omega)) (fun g e => Nat.le_trans (by omega) (Oo_20.out.blk g e))); have N21 : w20.heap.size + 1 ≤ w21.heap.size := (by first | with_reducible exact hg.size | (have := hg.size; simp only [szA, szS, szD] at this; omega)); clear hown hg; have S21 : w.heap.size ≤ w21.heap.size := (by omega))
        go_roundw
        case rel => exact ⟨s.size + 1, s.size + 1, oL21, _, _, by go_num, by go_num, rfl, by rw [← HoL21.out, HP.out]; exact HL.out, Oo_21.out, B21.out⟩
        case measure => (simp [intOf] <;> omega)
      · have hlt : k < s.size := by omega
        have hf2 := hfk (by omega)
        have d2 : ((k : Int) == (s.size : Int)) = false := beq_eq_false_iff_ne.2 (by omega)
        have d3 : (k == s.size) = false := beq_eq_false_iff_ne.2 hlast
        have d4 : ¬ (k : Int) = (s.size : Int) := by omega
        clear hlast
        by_cases hc : (s[k].toNat : Int) = c
        · have d5 : ((s[k].toNat : Int) == c) = true := beq_iff_eq.2 hc
          have HL := Lib.hid (HI.out.hit hlt hc)
          clear hc
          go_wp2_with (at_builtin; refine wpList_snoc _ encZ_len one_str rfl _ _ 40 rfl 9 _ 16 Tryd.underlying40 info_string rfl (by decide) w.heap.size (.slice ao out.length po) out rfl Oo_20.out (s.extract f k) _ rfl _ rfl (by first | omega | (simp only [szA, szS, szD, World.heap_drewN] at * <;> omega)) (by decide) (by omega) (by first | omega | (simp only [szA, szS, szD, World.heap_drewN] at * <;> omega)) ?_; intro ad21 cp21 w21 hown hg hat; obtain ⟨oL21, hoL21⟩ : ∃ l, out ++ [(s.extract f k)] = l := ⟨_, rfl⟩; have loL21 : out.length + 1 = oL21.length := (by rw [← hoL21, List.length_append, List.length_singleton]); rw [hoL21, loL21] at hown; rw [loL21]; have HoL21 := Lib.hid hoL21; clear hoL21; have KoL21 := Lib.hid loL21; clear loL21; rw [KoL21.out] at hat; clear hat; have Oo_21 := Lib.hid hown; have B21 := Lib.hid (Below.grown (Below.alloc B20.out (by first | omega | (simp only [szA, szS, szD, World.heap_drewN] at * <;> omega)) _) hg (by first | omega | (simp only [szA, szS, szD, World.heap_drewN]; omega)) (fun g e => Nat.le_trans (by omega) (Oo_20.out.blk g e))); have N21 : w20.heap.size + 1 ≤ w21.heap.size := (by first | with_reducible exact hg.size | (have := hg.size; simp only [szA, szS, szD] at this; omega)); clear hown hg; have S21 : w.heap.size ≤ w21.heap.size := (by omega))
          go_roundw
          case rel => exact ⟨k + 1, k + 1, oL21, _, _, by go_num, by go_num, rfl, by rw [← HoL21.out]; exact HL.out, Oo_21.out, B21.out⟩
          case measure => (simp [intOf] <;> omega)
        · have d5 : ((s[k].toNat : Int) == c) = false := beq_eq_false_iff_ne.2 hc
          have HL := Lib.hid (HI.out.miss hlt hc)
          clear hc
          go_wp2
          go_roundw
          case rel => exact ⟨k + 1, f, out, _, _, by go_num, rfl, rfl, HL.out, Oo_20.out, B20.out⟩
          case measure => (simp [intOf] <;> omega)
    · have d1 : decide ((k : Int) ≤ (s.size : Int)) = false := decide_eq_false (by omega)
      have HD := Lib.hid (HI.out.done (by omega))
      go_wp2
      go_ret
      exact ⟨_, rfl, by rw [← HD.out]; exact Oo_20.out, B20.out⟩
end Go.Proofs.YthbnbofoefdneaaDoor
