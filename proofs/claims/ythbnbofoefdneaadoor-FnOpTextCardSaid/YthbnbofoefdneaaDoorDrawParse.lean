/- l6Bend, DrawParseOp (made by gen_optextlaw.py). -/
import Derived.Test.YthbnbofoefdneaaDoorDrawOps
import Derived.Deep.RegionLaw
namespace Go.Proofs.YthbnbofoefdneaaDoor
open Go.RowKit
set_option linter.unusedSimpArgs false
set_option linter.unusedVariables false
def bitsB : List ByteArray := [⟨#[]⟩, ⟨#[32]⟩, ⟨#[48]⟩, ⟨#[45]⟩, ⟨#[115]⟩, ⟨#[49]⟩]
theorem bitsB_size : ∀ x ∈ bitsB, x.size ≤ 1 := by decide
theorem bits_row {w : World} {g : Nat} (h : w.heap[g]? = some (.cells #[.string ⟨#[]⟩, .string ⟨#[32]⟩, .string ⟨#[48]⟩, .string ⟨#[45]⟩, .string ⟨#[115]⟩, .string ⟨#[49]⟩] 9 (0, 0))) : Row 1 encZ w (.slice (some ⟨g, 0, none⟩) 6 6) bitsB :=
  (Own.shut (base := 0) (n := 6) (cap := 6) (xs := bitsB) (cur := #[.string ⟨#[]⟩, .string ⟨#[32]⟩, .string ⟨#[48]⟩, .string ⟨#[45]⟩, .string ⟨#[115]⟩, .string ⟨#[49]⟩]) rfl (Nat.zero_le _) rfl h (Nat.le_refl _) (by decide) rfl rfl : Own 0 9 1 encZ w (.slice (some ⟨g, 0, none⟩) 6 6) bitsB).row encZ_len
theorem bend_size (s y : ByteArray) (a b c d : Nat) : (s.extract a b ++ y ++ s.extract c d).size ≤ 2 * s.size + y.size := by
  rw [ByteArray.size_append, ByteArray.size_append]
  have h1 := extract_size_le s a b
  have h2 := extract_size_le s c d
  omega
set_option maxRecDepth 100000 in
set_option maxHeartbeats 6400000 in
theorem l6Bend_calls (b N g : Nat) (s : ByteArray) (w0 w : World) (h : Dr w0 b N w) (hN : N ≤ 900000) (hs : s.size ≤ 1000) (hg : w.heap[g]? = some (.cells #[.string ⟨#[]⟩, .string ⟨#[32]⟩, .string ⟨#[48]⟩, .string ⟨#[45]⟩, .string ⟨#[115]⟩, .string ⟨#[49]⟩] 9 (0, 0))) (hgb : g ≠ b) :
    Calls Tryd.prog 33 #[.pointer (some ⟨b, 0, none⟩), .string s, .slice (some ⟨g, 0, none⟩) 6 6] w fun e w' => ∃ t : ByteArray, e = .returned (.string t) ∧ t.size ≤ 2001 ∧ Dr w b (N + 8) w' := by
  have A0 := Lib.hid (Dr.start h.r); have hlt := h.r.lt; clear h
  have hgl := heap_lt hg
  have Xz_0 := Lib.hid hg; clear hg
  by_cases hz : s.size = 0
  · have d1 : ((s.size : Int) == 0) = true := beq_iff_eq.2 (by omega)
    have d2 : (s.size == 0) = true := beq_iff_eq.2 hz
    go_enter Tryd.func33, Tryd.ntmps33
    go_wp2_with (fail)
    go_ret
    exact ⟨_, rfl, (by omega), Dr.mono A0.out (by omega)⟩
  · have d1 : ((s.size : Int) == 0) = false := beq_eq_false_iff_ne.2 (by omega)
    have d2 : (s.size == 0) = false := beq_eq_false_iff_ne.2 hz
    go_enter Tryd.func33, Tryd.ntmps33
    go_wp2_with (fail)
    refine (pickD b N 2 w _ A0.out (by omega) (by decide)).mono ?_
    rintro e w1 ⟨x, rfl, hx0, hx1, hd⟩
    have A1 := Lib.hid (Dr.then A0.out hd)
    have Z1 := hd.size
    have N1 : w.heap.size ≤ w1.heap.size := (by first | with_reducible exact Z1 | (simp only [szA, szS, szD] at Z1; omega))
    clear Z1
    have Xz_1 := Lib.hid (hd.at_ Xz_0.out (by first | omega | (simp only [szA, szS, szD, World.heap_drewN] at * <;> omega)))
    clear hd
    have lz1 := heap_lt Xz_1.out
    have S1 : w.heap.size ≤ w1.heap.size := (by omega)
    by_cases h0 : x = 0
    · subst h0
      go_wp2_with (fail)
      go_ret
      exact ⟨_, rfl, (by omega), Dr.mono A1.out (by omega)⟩
    · have e0 : (x == 0) = false := beq_false_of_ne h0
      go_wp2_with (fail)
      refine (pickD b (N + 1) (s.size : Int) w _ A1.out (by omega) (by omega)).mono ?_
      rintro e w2 ⟨k9, rfl, hk0, hk1, hd⟩
      have A2 := Lib.hid (Dr.then A1.out hd)
      have Z2 := hd.size
      have N2 : w1.heap.size ≤ w2.heap.size := (by first | with_reducible exact Z2 | (simp only [szA, szS, szD] at Z2; omega))
      clear Z2
      have Xz_2 := Lib.hid (hd.at_ Xz_1.out (by first | omega | (simp only [szA, szS, szD, World.heap_drewN] at * <;> omega)))
      clear hd
      have lz2 := heap_lt Xz_2.out
      have S2 : w.heap.size ≤ w2.heap.size := (by omega)
      obtain ⟨k, rfl⟩ := Int.eq_ofNat_of_zero_le hk0
      have hk : k < s.size := by omega
      have i1 : (0 : Int) ≤ (k : Int) := by omega
      have i2 : (k : Int) ≤ (s.size : Int) := by omega
      have i3 : k ≤ s.size := by omega
      clear hk0 hk1
      go_wp2_with (fail)
      go_region_law (first
        | (refine step_fn rfl 39 #[.pointer (some ⟨b, 0, none⟩), .slice (some ⟨g, 0, none⟩) 6 6] (by simp [execOp, resolve, invoke, Act.eval, Act.put, go_sem]) ((of_calls b (N + 2) _ bitsB w _ (by exact (A2.out.drew)) (by omega) (bits_row (by exact (heap_drew Xz_2.out))) (by decide) (by simp [Value.ownBlock]; omega)).mono ?_); rintro e w3 ⟨y, rfl, hy, hd⟩; refine ⟨_, rfl, ?_⟩; have A3 := Lib.hid (Dr.then (A2.out.drew) hd); have Z3 := hd.size; have N3 : w2.heap.size ≤ w3.heap.size := (by first | with_reducible exact Z3 | (simp only [szA, szS, szD] at Z3; omega)); clear Z3; have Xz_3 := Lib.hid (hd.at_ (heap_drew Xz_2.out) (by first | omega | (simp only [szA, szS, szD, World.heap_drewN] at * <;> omega))); clear hd; have lz3 := heap_lt Xz_3.out; have S3 : w.heap.size ≤ w3.heap.size := (by omega); have hys := bitsB_size y hy; have m1 : ¬ 9223372036854775807 < k + y.size := (by omega); clear hy)
        | (refine step_fn rfl 27 #[.pointer (some ⟨b, 0, none⟩), .int .i64 2] (by simp [execOp, resolve, invoke, Act.eval, Act.put, go_sem]) ((pickD b (N + 3) 2 w _ (by exact A3.out) (by omega) (by decide)).mono ?_); rintro e w4 ⟨z, rfl, hz0, hz1, hd⟩; refine ⟨_, rfl, ?_⟩; have A4 := Lib.hid (Dr.then A3.out hd); have Z4 := hd.size; have N4 : w3.heap.size ≤ w4.heap.size := (by first | with_reducible exact Z4 | (simp only [szA, szS, szD] at Z4; omega)); clear Z4; have Xz_4 := Lib.hid (hd.at_ Xz_3.out (by first | omega | (simp only [szA, szS, szD, World.heap_drewN] at * <;> omega))); clear hd; have lz4 := heap_lt Xz_4.out; have S4 : w.heap.size ≤ w4.heap.size := (by omega); have j0 : IntKind.i64.wrap ((k : Int) + z) = (k : Int) + z := IntWalk.i64_in _ (by omega); have j1 : (0 : Int) ≤ (k : Int) + z := (by omega); have j2 : (k : Int) + z ≤ (s.size : Int) := (by omega); have m2 : ¬ 9223372036854775807 < k + y.size + (s.size - ((k : Int) + z).toNat) := (by omega)))
      all_goals
        go_wp2_with (fail)
        go_ret
        exact ⟨_, rfl, (Nat.le_trans (bend_size _ _ _ _ _ _) (by omega)), Dr.mono A4.out (by omega)⟩
set_option maxHeartbeats 3200000 in
theorem DrawParseOp_calls (v : Value) (bs : List Int) (w : World) (h : Row 1 encB w v bs) (hbs : ∀ x ∈ bs, 0 ≤ x ∧ x ≤ 255) :
    Calls Tryd.prog 14 #[v] w fun e w' => ∃ t : ByteArray, e = .returned (.string t) ∧ t.size ≤ 2001 ∧ Below w.heap.size w w' := by
  have H0 := Lib.hid h; have HBS := Lib.hid hbs; clear h hbs
  go_enter Tryd.func14, Tryd.ntmps14
  go_wp2_with (fail)
  refine (l13Open_calls v bs _ (Row.below H0.out (Below.refl _ _)) HBS.out).mono ?_
  rintro e w1 ⟨rfl, hr, hb⟩
  have B1 := Lib.hid (Below.trans (Below.refl _ _) (hb.mono (by first | omega | (simp only [szA, szS, szD, World.heap_drewN] at * <;> omega))) : Below w.heap.size w w1)
  have Z1 := hb.size
  have N1 : w.heap.size ≤ w1.heap.size := (by first | with_reducible exact Z1 | (simp only [szA, szS, szD] at Z1; omega))
  clear Z1
  clear hb
  have S1 : w.heap.size ≤ w1.heap.size := (by omega)
  skip
  have A1 := Lib.hid (Dr.start hr); have hlt := hr.lt; clear hr
  have S1 : w1.heap.size ≤ w1.heap.size := Nat.le_refl _
  have SB : w.heap.size ≤ w1.heap.size := by omega
  go_wp2_with (fail)
  refine (l6Draw_calls w.heap.size 0 w1 _ A1.out (by omega)).mono ?_
  rintro e w2 ⟨v0, c0, rfl, ho_d, hf0, hl0, hd⟩
  have A2 := Lib.hid (Dr.then A1.out hd)
  have Z2 := hd.size
  have N2 : w1.heap.size ≤ w2.heap.size := (by first | with_reducible exact Z2 | (simp only [szA, szS, szD] at Z2; omega))
  clear Z2
  have Od_2 := Lib.hid (ho_d.mono (lo' := w1.heap.size) (by first | omega | (simp only [szA, szS, szD, World.heap_drewN] at * <;> omega)) (Nat.le_refl _)); obtain ⟨ad0, pd0, ad1, pd1, ad2, pd2, ad3, pd3, ad4, pd4, rfl, hx_d⟩ := ho_d; clear hx_d
  clear hd
  have S2 : w1.heap.size ≤ w2.heap.size := (by omega)
  clear hf0 hl0
  go_wp2_with (fail)
  refine (l6Op_calls w.heap.size (0 + 100) w1.heap.size _ _ c0 w1 _ (A2.out.alloc _) (by omega) (Od_2.out.alloc _) hlt).mono ?_
  rintro e w3 ⟨⟨x0, x1, x2⟩, rfl, hx, hd⟩
  have A3 := Lib.hid (Dr.then (A2.out.alloc _) hd)
  have Z3 := hd.size
  have N3 : w2.heap.size + 1 ≤ w3.heap.size := (by first | with_reducible exact Z3 | (simp only [szA, szS, szD] at Z3; omega))
  clear Z3
  have Xp_3 : Hid (w3.heap[w2.heap.size]? = some (.cells #[.slice ad0 c0.sems.length pd0, .slice ad1 c0.groups.length pd1, .slice ad2 c0.barriers.length pd2, .slice ad3 c0.rooms.length pd3, .slice ad4 c0.threads.length pd4] 34 (0, 0))) := hd.at_ (heap_at' (n := w2.heap.size) (by first | omega | (simp only [szA, szS, szD, World.heap_drewN] at * <;> omega))) (by first | omega | (simp only [szA, szS, szD, World.heap_drewN] at * <;> omega))
  have Od_3 := Lib.hid ((Od_2.out.alloc _).past hd.g hlt)
  clear hd
  obtain ⟨cp3_0, cp3_1, cp3_2, cp3_3, cp3_4, fp3_0, fp3_1, fp3_2, fp3_3, fp3_4⟩ := box5 Xp_3.out; have lp3 := heap_lt Xp_3.out
  have S3 : w1.heap.size ≤ w3.heap.size := (by omega)
  have HI := Lib.hid hx.inB; clear hx
  obtain ⟨s, hs⟩ : ∃ s, opText (x0, x1, x2) = s := ⟨_, rfl⟩
  have hs60 : s.size ≤ 60 := by rw [← hs]; exact opText_size HI.out.2.1 HI.out.2.2
  have HS := Lib.hid hs; clear hs
  go_wp2_with (fail)
  refine (sFormatOp_calls (x0, x1, x2) _ HI.out.2.1 HI.out.2.2).mono ?_
  rw [HS.out]
  rintro e w4 ⟨rfl, hb⟩
  have A4 := Lib.hid (Dr.below A3.out hb)
  have Z4 := hb.size
  have N4 : w3.heap.size ≤ w4.heap.size := (by first | with_reducible exact Z4 | (simp only [szA, szS, szD] at Z4; omega))
  clear Z4
  have Xp_4 := Lib.hid (below_at hb Xp_3.out)
  clear hb
  obtain ⟨cp4_0, cp4_1, cp4_2, cp4_3, cp4_4, fp4_0, fp4_1, fp4_2, fp4_3, fp4_4⟩ := box5 Xp_4.out; have lp4 := heap_lt Xp_4.out
  have S4 : w1.heap.size ≤ w4.heap.size := (by omega)
  clear cp3_0 cp3_1 cp3_2 cp3_3 cp3_4 fp3_0 fp3_1 fp3_2 fp3_3 fp3_4
  go_wp2_with (fail)
  refine (l6Bend_calls w.heap.size (0 + 104) (w4.heap.size) s w1 _ (A4.out.alloc _) (by omega) (by omega) (heap_at' (n := w4.heap.size) (by first | omega | (simp only [szA, szS, szD, World.heap_drewN] at * <;> omega))) (by omega)).mono ?_
  rintro e w5 ⟨t, rfl, ht, hd⟩
  have A5 := Lib.hid (Dr.then (A4.out.alloc _) hd)
  have Z5 := hd.size
  have N5 : w4.heap.size + 1 ≤ w5.heap.size := (by first | with_reducible exact Z5 | (simp only [szA, szS, szD] at Z5; omega))
  clear Z5
  have Xp_5 := Lib.hid (hd.at_ (heap_up Xp_4.out) (by first | omega | (simp only [szA, szS, szD, World.heap_drewN] at * <;> omega)))
  have Xz_5 : Hid (w5.heap[w4.heap.size]? = some (.cells #[.string ⟨#[]⟩, .string ⟨#[32]⟩, .string ⟨#[48]⟩, .string ⟨#[45]⟩, .string ⟨#[115]⟩, .string ⟨#[49]⟩] 9 (0, 0))) := hd.at_ (heap_at' (n := w4.heap.size) (by first | omega | (simp only [szA, szS, szD, World.heap_drewN] at * <;> omega))) (by first | omega | (simp only [szA, szS, szD, World.heap_drewN] at * <;> omega))
  clear hd
  obtain ⟨cp5_0, cp5_1, cp5_2, cp5_3, cp5_4, fp5_0, fp5_1, fp5_2, fp5_3, fp5_4⟩ := box5 Xp_5.out; have lp5 := heap_lt Xp_5.out
  have lz5 := heap_lt Xz_5.out
  have S5 : w1.heap.size ≤ w5.heap.size := (by omega)
  clear cp4_0 cp4_1 cp4_2 cp4_3 cp4_4 fp4_0 fp4_1 fp4_2 fp4_3 fp4_4
  go_wp2_with (fail)
  go_ret
  exact ⟨t, rfl, ht, (Dr.out B1.out A5.out (by omega))⟩
end Go.Proofs.YthbnbofoefdneaaDoor
