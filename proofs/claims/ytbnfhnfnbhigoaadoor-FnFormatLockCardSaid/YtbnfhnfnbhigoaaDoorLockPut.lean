/- l4Put (made by gen_lock.py). -/
import Derived.Test.YtbnfhnfnbhigoaaDoorDrLock
import Derived.Test.YtbnfhnfnbhigoaaDoorSets
import Derived.Test.YtbnfhnfnbhigoaaDoorJoin
namespace Go.Proofs.YtbnfhnfnbhigoaaDoor
open Go.RowKit
set_option linter.unusedSimpArgs false
set_option linter.unusedVariables false
set_option maxHeartbeats 3200000 in
theorem l4Put_calls (v : Value) (xs : List Int) (t : Int) (w : World) (h : IRow w v xs) (hn : xs.length ≤ 1000) :
    Calls Tryd.prog 63 #[v, .int .i64 t] w fun e w' => ∃ v' ys, e = .returned v' ∧ LOwn w.heap.size w'.heap.size w' v' ys ∧ ys.length = xs.length + 1 ∧ Below w.heap.size w w' := by
  have HL := Lib.hid h
  obtain ⟨a, c, rfl, l, m, r⟩ := h.look
  have R := Lib.hid r; clear r h
  go_enter Tryd.func63, Tryd.ntmps63
  go_wp2
  go_loopw [5, 6, 7] (fun ov dn i wr => ∃ (k : Nat) (out : List Int) (ao : Option Addr) (po : Nat) (d : Bool), k ≤ xs.length ∧ i = .int .i64 k ∧ dn = .bool d ∧ ov = .slice ao out.length po ∧ out.length = k + d.toNat ∧ Own w.heap.size 3 1 encI wr (.slice ao out.length po) out ∧ Below w.heap.size w wr) (fun _ _ i _ => xs.length - (intOf i).toNat)
  case atStart => exact ⟨0, [], _, _, false, Nat.zero_le _, rfl, rfl, rfl, rfl, Own.empty (heap_at w _) (Nat.le_refl _), (Below.refl _ _).alloc (Nat.le_refl _) _⟩
  case round =>
    obtain ⟨w20, rfl⟩ : ∃ x : World, x = wr := ⟨_, rfl⟩
    obtain ⟨k, out, ao, po, d, hk, rfl, rfl, rfl, hl, ho, hb⟩ := hrel
    have B20 := Lib.hid hb; have S20 := hb.size; have Oo_20 := Lib.hid ho; have HLN := Lib.hid hl; have hol : out.length ≤ 1001 := by (cases d <;> simp at hl <;> omega)
    clear hb ho hl
    by_cases hlt : k < xs.length
    · obtain ⟨b, o, rfl, hb1, hc1⟩ := R.out (by omega)
      obtain ⟨x, hx⟩ := get_ex hlt
      have hx0 := hc1 k x hx
      clear hc1 hx
      have k1 := (B20.out.cell (p := ⟨b, o + k, none⟩) hb1).trans hx0
      have d8 : (0 : Int) ≤ (k : Int) := by omega
      have d9 : (k : Int) < (xs.length : Int) := by omega
      cases d
      · by_cases hg : t < x
        · have d1 := decide_eq_true hg
          go_wp2_with (first | (at_builtin; refine wpList_snoc _ encI_len encI_one rfl _ _ 22 rfl 3 _ 8 Tryd.underlying22 info_int rfl (by decide) w.heap.size (.slice ao out.length po) out rfl Oo_20.out t _ rfl _ rfl (by first | omega | (simp only [szA, szS, szD, World.heap_drewN] at * <;> omega)) (by decide) (by omega) (by first | omega | (simp only [szA, szS, szD, World.heap_drewN] at * <;> omega)) ?_; intro ad21 cp21 w21 hown hg hat; obtain ⟨oL21, hoL21⟩ : ∃ l, out ++ [t] = l := ⟨_, rfl⟩; have loL21 : out.length + 1 = oL21.length := (by rw [← hoL21, List.length_append, List.length_singleton]); rw [hoL21, loL21] at hown; rw [loL21]; have HoL21 := Lib.hid hoL21; clear hoL21; have KoL21 := Lib.hid loL21; clear loL21; rw [KoL21.out] at hat; clear hat; have Oo_21 := Lib.hid hown; have B21 := Lib.hid (Below.grown (Below.alloc B20.out (by first | omega | (simp only [szA, szS, szD, World.heap_drewN] at * <;> omega)) _) hg (by first | omega | (simp only [szA, szS, szD, World.heap_drewN]; omega)) (fun g e => Nat.le_trans (by omega) (Oo_20.out.blk g e))); have N21 : w20.heap.size + 1 ≤ w21.heap.size := (by first | with_reducible exact hg.size | (have := hg.size; simp only [szA, szS, szD] at this; omega)); clear hown hg; have S21 : w.heap.size ≤ w21.heap.size := (by omega); have k2 := (B21.out.cell (p := ⟨b, o + k, none⟩) hb1).trans hx0) | (at_builtin; refine Closed.out ?_))
          refine Closed.mk ?_
          have hol2 : oL21.length ≤ 1002 := by have := KoL21.out; omega
          go_wp2_with (at_builtin; refine wpList_snoc _ encI_len encI_one rfl _ _ 22 rfl 3 _ 8 Tryd.underlying22 info_int rfl (by decide) w.heap.size (.slice ad21 oL21.length cp21) oL21 rfl Oo_21.out x _ rfl _ rfl (by first | omega | (simp only [szA, szS, szD, World.heap_drewN] at * <;> omega)) (by decide) (by omega) (by first | omega | (simp only [szA, szS, szD, World.heap_drewN] at * <;> omega)) ?_; intro ad22 cp22 w22 hown hg hat; obtain ⟨oL22, hoL22⟩ : ∃ l, oL21 ++ [x] = l := ⟨_, rfl⟩; have loL22 : oL21.length + 1 = oL22.length := (by rw [← hoL22, List.length_append, List.length_singleton]); rw [hoL22, loL22] at hown; rw [loL22]; have HoL22 := Lib.hid hoL22; clear hoL22; have KoL22 := Lib.hid loL22; clear loL22; rw [KoL22.out] at hat; clear hat; have Oo_22 := Lib.hid hown; have B22 := Lib.hid (Below.grown (Below.alloc B21.out (by first | omega | (simp only [szA, szS, szD, World.heap_drewN] at * <;> omega)) _) hg (by first | omega | (simp only [szA, szS, szD, World.heap_drewN]; omega)) (fun g e => Nat.le_trans (by omega) (Oo_21.out.blk g e))); have N22 : w21.heap.size + 1 ≤ w22.heap.size := (by first | with_reducible exact hg.size | (have := hg.size; simp only [szA, szS, szD] at this; omega)); clear hown hg; have S22 : w.heap.size ≤ w22.heap.size := (by omega))
          go_roundw
          case rel => exact ⟨k + 1, oL22, _, _, true, by omega, by go_num, rfl, rfl, by have := HLN.out; have := KoL22.out; have := KoL21.out; simp at *; omega, Oo_22.out, B22.out⟩
          case measure => simp [intOf]; omega
        · have d1 := decide_eq_false hg
          go_wp2_with (at_builtin; refine wpList_snoc _ encI_len encI_one rfl _ _ 22 rfl 3 _ 8 Tryd.underlying22 info_int rfl (by decide) w.heap.size (.slice ao out.length po) out rfl Oo_20.out x _ rfl _ rfl (by first | omega | (simp only [szA, szS, szD, World.heap_drewN] at * <;> omega)) (by decide) (by omega) (by first | omega | (simp only [szA, szS, szD, World.heap_drewN] at * <;> omega)) ?_; intro ad21 cp21 w21 hown hg hat; obtain ⟨oL21, hoL21⟩ : ∃ l, out ++ [x] = l := ⟨_, rfl⟩; have loL21 : out.length + 1 = oL21.length := (by rw [← hoL21, List.length_append, List.length_singleton]); rw [hoL21, loL21] at hown; rw [loL21]; have HoL21 := Lib.hid hoL21; clear hoL21; have KoL21 := Lib.hid loL21; clear loL21; rw [KoL21.out] at hat; clear hat; have Oo_21 := Lib.hid hown; have B21 := Lib.hid (Below.grown (Below.alloc B20.out (by first | omega | (simp only [szA, szS, szD, World.heap_drewN] at * <;> omega)) _) hg (by first | omega | (simp only [szA, szS, szD, World.heap_drewN]; omega)) (fun g e => Nat.le_trans (by omega) (Oo_20.out.blk g e))); have N21 : w20.heap.size + 1 ≤ w21.heap.size := (by first | with_reducible exact hg.size | (have := hg.size; simp only [szA, szS, szD] at this; omega)); clear hown hg; have S21 : w.heap.size ≤ w21.heap.size := (by omega))
          go_roundw
          case rel => exact ⟨k + 1, oL21, _, _, false, by omega, by go_num, rfl, rfl, by have := HLN.out; have := KoL21.out; simp at *; omega, Oo_21.out, B21.out⟩
          case measure => simp [intOf]; omega
      · go_wp2_with (at_builtin; refine wpList_snoc _ encI_len encI_one rfl _ _ 22 rfl 3 _ 8 Tryd.underlying22 info_int rfl (by decide) w.heap.size (.slice ao out.length po) out rfl Oo_20.out x _ rfl _ rfl (by first | omega | (simp only [szA, szS, szD, World.heap_drewN] at * <;> omega)) (by decide) (by omega) (by first | omega | (simp only [szA, szS, szD, World.heap_drewN] at * <;> omega)) ?_; intro ad21 cp21 w21 hown hg hat; obtain ⟨oL21, hoL21⟩ : ∃ l, out ++ [x] = l := ⟨_, rfl⟩; have loL21 : out.length + 1 = oL21.length := (by rw [← hoL21, List.length_append, List.length_singleton]); rw [hoL21, loL21] at hown; rw [loL21]; have HoL21 := Lib.hid hoL21; clear hoL21; have KoL21 := Lib.hid loL21; clear loL21; rw [KoL21.out] at hat; clear hat; have Oo_21 := Lib.hid hown; have B21 := Lib.hid (Below.grown (Below.alloc B20.out (by first | omega | (simp only [szA, szS, szD, World.heap_drewN] at * <;> omega)) _) hg (by first | omega | (simp only [szA, szS, szD, World.heap_drewN]; omega)) (fun g e => Nat.le_trans (by omega) (Oo_20.out.blk g e))); have N21 : w20.heap.size + 1 ≤ w21.heap.size := (by first | with_reducible exact hg.size | (have := hg.size; simp only [szA, szS, szD] at this; omega)); clear hown hg; have S21 : w.heap.size ≤ w21.heap.size := (by omega))
        go_roundw
        case rel => exact ⟨k + 1, oL21, _, _, true, by omega, by go_num, rfl, rfl, by have := HLN.out; have := KoL21.out; simp at *; omega, Oo_21.out, B21.out⟩
        case measure => simp [intOf]; omega
    · cases d
      · go_wp2_with (at_builtin; refine wpList_snoc _ encI_len encI_one rfl _ _ 22 rfl 3 _ 8 Tryd.underlying22 info_int rfl (by decide) w.heap.size (.slice ao out.length po) out rfl Oo_20.out t _ rfl _ rfl (by first | omega | (simp only [szA, szS, szD, World.heap_drewN] at * <;> omega)) (by decide) (by omega) (by first | omega | (simp only [szA, szS, szD, World.heap_drewN] at * <;> omega)) ?_; intro ad21 cp21 w21 hown hg hat; obtain ⟨oL21, hoL21⟩ : ∃ l, out ++ [t] = l := ⟨_, rfl⟩; have loL21 : out.length + 1 = oL21.length := (by rw [← hoL21, List.length_append, List.length_singleton]); rw [hoL21, loL21] at hown; rw [loL21]; have HoL21 := Lib.hid hoL21; clear hoL21; have KoL21 := Lib.hid loL21; clear loL21; rw [KoL21.out] at hat; clear hat; have Oo_21 := Lib.hid hown; have B21 := Lib.hid (Below.grown (Below.alloc B20.out (by first | omega | (simp only [szA, szS, szD, World.heap_drewN] at * <;> omega)) _) hg (by first | omega | (simp only [szA, szS, szD, World.heap_drewN]; omega)) (fun g e => Nat.le_trans (by omega) (Oo_20.out.blk g e))); have N21 : w20.heap.size + 1 ≤ w21.heap.size := (by first | with_reducible exact hg.size | (have := hg.size; simp only [szA, szS, szD] at this; omega)); clear hown hg; have S21 : w.heap.size ≤ w21.heap.size := (by omega))
        go_ret
        exact ⟨_, oL21, rfl, LOwn.of Oo_21.out (Nat.le_refl _), by have := HLN.out; have := KoL21.out; simp at *; omega, B21.out⟩
      · go_wp2
        go_ret
        exact ⟨_, out, rfl, LOwn.of Oo_20.out (Nat.le_refl _), by have := HLN.out; simp at *; omega, B20.out⟩
end Go.Proofs.YtbnfhnfnbhigoaaDoor
