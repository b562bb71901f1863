/- The reader of random numbers: pick, num, l13Open. -/
import Derived.Test.YtbnfhnfnbhigoaaDoorInfo
import Derived.Test.YtbnfhnfnbhigoaaDoorBase2
import Derived.Deep.RegionHeld3
import Derived.Deep.DrawnRows
namespace Go.Proofs.YtbnfhnfnbhigoaaDoor
open Go.RowKit
set_option linter.unusedSimpArgs false
set_option linter.unusedVariables false
attribute [local go_sem ↓] Go.wp_at_zero Go.wp_at_succ

def encB (x : Int) : List Value := [.int .u8 x]
theorem encB_len (x : Int) : (encB x).length = 1 := rfl
/-- The block of a slice that reads lies below the heap's end; so it is none that is made now. A slice without elements may point anywhere: that is why the reader's block is asked apart. -/
theorem Row.take {α : Type} {k n c : Nat} {enc : α → List Value} {w : World} {a : Option Addr} {xs : List α} (h : Row k enc w (.slice a xs.length c) xs) (hn : n ≤ xs.length) : Row k enc w (.slice a n c) (xs.take n) := by
  obtain ⟨a', cap, e, h1, h2, h3, h4⟩ := h
  simp only [Value.slice.injEq] at e
  obtain ⟨rfl, _, rfl⟩ := e
  have hl : (xs.take n).length = n := by simp; omega
  refine ⟨a, c, by rw [hl], by omega, h2, h3, fun hp => ?_⟩
  obtain ⟨b, off, e2, hlt, hc⟩ := h4 (by omega)
  refine ⟨b, off, e2, hlt, fun i x hx => hc i x ?_⟩
  rw [List.getElem?_take] at hx
  split at hx
  · exact hx
  · cases hx

theorem Row.grown2 {α : Type} {k : Nat} {enc : α → List Value} {w w' : World} {v : Value} {xs : List α} {row : Option Nat} (h : Row k enc w v xs) (hg : w.grownBy w' row) (hne : 0 < xs.length → v.ownBlock ≠ row) : Row k enc w' v xs := by
  obtain ⟨a, cap, e, h1, h2, h3, h4⟩ := h
  refine ⟨a, cap, e, h1, h2, h3, fun hn => ?_⟩
  have hne := hne hn
  obtain ⟨b, off, e2, hlt, hc⟩ := h4 hn
  subst e e2
  have hb := hg.block b hlt (by simpa [Value.ownBlock] using hne)
  exact ⟨b, off, rfl, Nat.lt_of_lt_of_le hlt hg.size, fun i x hx j u hu => (World.cell?_of_block (a := ⟨b, off + i * k + j, none⟩) hb).trans (hc i x hx j u hu)⟩
theorem Row.blk_lt {α : Type} {k : Nat} {enc : α → List Value} {w : World} {v : Value} {xs : List α} (h : Row k enc w v xs) : 0 < xs.length → ∀ g, v.ownBlock = some g → g < w.heap.size := by
  intro hn g e
  obtain ⟨a, cap, e1, h1, h2, h3, h4⟩ := h
  obtain ⟨b, off, e2, hlt, hc⟩ := h4 hn
  subst e1 e2
  simp only [Value.ownBlock, Option.some.injEq] at e
  omega

/-- Block b holds a reader that has picked at most N numbers. -/
def Rd (w : World) (b N : Nat) : Prop := ∃ (p : Nat) (bv : Value) (bs : List Int), w.heap[b]? = some (.cells #[bv, .int .i64 p] 72 (0, 0)) ∧ p ≤ N ∧ Row 1 encB w bv bs ∧ (0 < bs.length → ∀ g, bv.ownBlock = some g → g < b) ∧ bs.length ≤ 2000 ∧ ∀ x ∈ bs, 0 ≤ x ∧ x ≤ 255

theorem Rd.set {w w' : World} {b N : Nat} {p : Nat} {bv : Value} {bs : List Int} (hr : Row 1 encB w bv bs) (hne : 0 < bs.length → ∀ g, bv.ownBlock = some g → g < b) (hl : bs.length ≤ 2000) (hbs : ∀ x ∈ bs, 0 ≤ x ∧ x ≤ 255) (hp : p ≤ N) (hg : w.grownBy w' (some b))
    (hb : w'.heap[b]? = some (.cells #[bv, .int .i64 p] 72 (0, 0))) : Rd w' b N := ⟨p, bv, bs, hb, hp, hr.grown2 hg (fun hn e => Nat.lt_irrefl _ (hne hn b e)), hne, hl, hbs⟩

theorem pick_end0 {x n : Int} (hx : 0 ≤ x) (hn : 1 ≤ n) : 0 ≤ x % n := Int.emod_nonneg _ (by omega)
theorem pick_end1 {x n : Int} (hn : 1 ≤ n) : x % n < n := Int.emod_lt_of_pos _ (by omega)
theorem xor_i64 (a b : Nat) (ha : a < 2 ^ 62) (hb : b < 2 ^ 62) : bits .xor .i64 (a : Int) (b : Int) = ((a ^^^ b : Nat) : Int) := by
  have hx : a ^^^ b < 2 ^ 62 := Nat.xor_lt_two_pow ha hb
  have h1 : (BitVec.ofInt 64 (a : Int)).toNat = a := by
    rw [BitVec.ofInt_natCast, BitVec.toNat_ofNat]; exact Nat.mod_eq_of_lt (by omega)
  have h2 : (BitVec.ofInt 64 (b : Int)).toNat = b := by
    rw [BitVec.ofInt_natCast, BitVec.toNat_ofNat]; exact Nat.mod_eq_of_lt (by omega)
  show IntKind.i64.wrap ((BitVec.ofInt 64 (a : Int) ^^^ BitVec.ofInt 64 (b : Int)).toNat : Int) = _
  rw [BitVec.toNat_xor, h1, h2]
  exact IntWalk.i64_in _ (by omega)
theorem pick_mix {x y p d n : Int} (hx1 : 0 ≤ x) (hx2 : x ≤ 255) (hy1 : 0 ≤ y) (hy2 : y ≤ 255) (hp1 : 0 ≤ p) (hp2 : p ≤ 1000000) (hd1 : 0 ≤ d) (hd2 : d ≤ 1000000) (hn : 1 ≤ n) :
    0 ≤ (bits .xor .i64 (x * 131 + y * 1117 + p * 29 + d * 53) ((x * 131 + y * 1117 + p * 29 + d * 53) / 64)).tmod n ∧ (bits .xor .i64 (x * 131 + y * 1117 + p * 29 + d * 53) ((x * 131 + y * 1117 + p * 29 + d * 53) / 64)).tmod n < n := by
  obtain ⟨A, hA⟩ : ∃ A : Nat, x * 131 + y * 1117 + p * 29 + d * 53 = (A : Int) := ⟨(x * 131 + y * 1117 + p * 29 + d * 53).toNat, by omega⟩
  have hAl : A < 2 ^ 62 := by omega
  rw [hA, show ((A : Int) / 64) = ((A / 64 : Nat) : Int) by simp, xor_i64 A (A / 64) hAl (by omega), Int.tmod_eq_emod_of_nonneg (by omega)]
  exact ⟨Int.emod_nonneg _ (by omega), Int.emod_lt_of_pos _ (by omega)⟩
set_option maxHeartbeats 1600000 in
theorem pick_calls (b N : Nat) (n : Int) (w : World) (h : Rd w b N) (hN : N ≤ 1000000) (hn : n ≤ 1000000) :
    Calls Tryd.prog 32 #[.pointer (some ⟨b, 0, none⟩), .int .i64 n] w fun e w' => ∃ x : Int, e = .returned (.int .i64 x) ∧ 0 ≤ x ∧ (x < n ∨ x = 0) ∧ Rd w' b (N + 1) ∧ w.grownBy w' (some b) := by
  obtain ⟨p, bv, bs, hb, hp, hr, hne, hl, hbs⟩ := h
  have HB := Lib.hid hb
  have HR := Lib.hid hr
  have HBS := Lib.hid hbs; clear hbs
  have HNE := Lib.hid hne
  obtain ⟨c0, c1, k0, k1⟩ := box2 hb
  obtain ⟨a, c, rfl, l1, l2, l3, hrow⟩ := hr
  have ROW := Lib.hid hrow; clear hrow l3 hb hne
  have hp0 : (0 : Int) ≤ (p : Int) := Int.natCast_nonneg _
  by_cases h1 : 1 ≤ n
  · by_cases hq : 0 < bs.length
    · have e1 := len_ne hq
      obtain ⟨bb, off, rfl, hbb, hc⟩ := ROW.out hq
      have hnb : bb ≠ b := fun e => Nat.lt_irrefl b (HNE.out hq b (by rw [e]; rfl))
      by_cases hk : p < bs.length
      · obtain ⟨x, hx⟩ := get_ex hk
        have y0 := hc p x hx 0 _ rfl
        simp only [Nat.mul_one, Nat.add_zero] at y0
        have hx0 := HBS.out x (get_mem hx)
        obtain ⟨hx1, hx2⟩ := hx0
        clear hx hc
        go_enter Tryd.func32, Tryd.ntmps32
        go_wp2
        go_ret
        exact ⟨_, rfl, pick_end0 hx1 h1, .inl (pick_end1 h1), Rd.set (p := p + 1) HR.out HNE.out hl HBS.out (by omega) (grown_set (World.grownBy.refl _ _) rfl _) (by exact set_at HB.out rfl rfl _), grown_set (World.grownBy.refl _ _) rfl _⟩
      · obtain ⟨x, hx⟩ := get_ex (show p % bs.length < bs.length from Nat.mod_lt _ hq)
        obtain ⟨y, hy⟩ := get_ex (show (p * 7 + 3) % bs.length < bs.length from Nat.mod_lt _ hq)
        have y0 := hc _ x hx 0 _ rfl
        have y1 := hc _ y hy 0 _ rfl
        simp only [Nat.mul_one, Nat.add_zero] at y0 y1
        obtain ⟨hx1, hx2⟩ := HBS.out x (get_mem hx)
        obtain ⟨hy1, hy2⟩ := HBS.out y (get_mem hy)
        have i1 : (0 : Int) ≤ (p : Int) % (bs.length : Int) := Int.emod_nonneg _ (by omega)
        have i2 : (p : Int) % (bs.length : Int) < (bs.length : Int) := Int.emod_lt_of_pos _ (by omega)
        have i3 : (0 : Int) ≤ ((p : Int) * 7 + 3) % (bs.length : Int) := Int.emod_nonneg _ (by omega)
        have i4 : ((p : Int) * 7 + 3) % (bs.length : Int) < (bs.length : Int) := Int.emod_lt_of_pos _ (by omega)
        have i5 : (0 : Int) ≤ (p : Int) / (bs.length : Int) := Int.ediv_nonneg (by omega) (by omega)
        have i6 : (p : Int) / (bs.length : Int) ≤ 1000000 := by have := Int.ediv_le_self (b := (bs.length : Int)) hp0; omega
        clear hx hy hc
        go_enter Tryd.func32, Tryd.ntmps32
        go_wp2
        go_quiet (fail)
        go_wp2
        go_ret
        obtain ⟨z1, z2⟩ := pick_mix (x := x) (y := y) (p := (p : Int)) (d := (p : Int) / (bs.length : Int)) hx1 hx2 hy1 hy2 hp0 (by omega) i5 i6 h1
        exact ⟨_, rfl, z1, .inl z2, Rd.set (p := p + 1) HR.out HNE.out hl HBS.out (by omega) (grown_set (grown_drewN (World.grownBy.refl _ _) _) rfl _) (by exact set_at (show (w.drewN _).heap[b]? = _ from HB.out) rfl rfl _), grown_set (grown_drewN (World.grownBy.refl _ _) _) rfl _⟩
    · have e1 := len_eq hq
      go_enter Tryd.func32, Tryd.ntmps32
      go_wp2
      go_ret
      exact ⟨0, rfl, Int.le_refl _, .inr rfl, Rd.set (p := p + 1) HR.out HNE.out hl HBS.out (by omega) (grown_set (World.grownBy.refl _ _) rfl _) (by exact set_at HB.out rfl rfl _), grown_set (World.grownBy.refl _ _) rfl _⟩
  · go_enter Tryd.func32, Tryd.ntmps32
    go_wp2
    go_ret
    exact ⟨0, rfl, Int.le_refl _, .inr rfl, Rd.set (p := p + 1) HR.out HNE.out hl HBS.out (by omega) (grown_set (World.grownBy.refl _ _) rfl _) (by exact set_at HB.out rfl rfl _), grown_set (World.grownBy.refl _ _) rfl _⟩

theorem num_calls (b N : Nat) (lv : Value) (xs : List Int) (w : World) (h : Rd w b N) (hN : N ≤ 1000000) (hl : IRow w lv xs) (hlen : 0 < xs.length ∧ xs.length ≤ 1000) (hne : lv.ownBlock ≠ some b) :
    Calls Tryd.prog 47 #[.pointer (some ⟨b, 0, none⟩), lv] w fun e w' => ∃ x : Int, e = .returned (.int .i64 x) ∧ x ∈ xs ∧ Rd w' b (N + 1) ∧ w.grownBy w' (some b) := by
  have HH := Lib.hid h; clear h
  have HL := Lib.hid hl
  have HNE := Lib.hid hne
  obtain ⟨a, c, rfl, l1, l2, l3⟩ := hl.look
  obtain ⟨hq, hlen⟩ := hlen
  obtain ⟨bb, off, rfl, hbb, hc⟩ := l3 hq
  clear l3 hne hl
  go_enter Tryd.func47, Tryd.ntmps47
  go_wp2_with (fail)
  refine (pick_calls b N _ _ HH.out hN (by omega)).mono ?_
  rintro e w1 ⟨x, rfl, hx0, hx1, hr, hg⟩
  have HR := Lib.hid hr
  have HG := Lib.hid hg
  clear hr hg
  obtain ⟨k, rfl⟩ := Int.eq_ofNat_of_zero_le hx0
  have hk : k < xs.length := by omega
  obtain ⟨y, hy⟩ := get_ex hk
  have y0 := hc k y hy
  have y1 := HG.out.cell y0 (by intro e; exact HNE.out e)
  have HY := Lib.hid hy
  clear hy hc y0
  have hk1 : (k : Int) < (xs.length : Int) := by omega
  go_wp2
  go_ret
  exact ⟨_, rfl, get_mem HY.out, HR.out, HG.out⟩

theorem l13Open_calls (v : Value) (bs : List Int) (w : World) (h : Row 1 encB w v bs) (hbs : ∀ x ∈ bs, 0 ≤ x ∧ x ≤ 255) :
    Calls Tryd.prog 30 #[v] w fun e w' => e = .returned (.pointer (some ⟨w.heap.size, 0, none⟩)) ∧ Rd w' w.heap.size 0 ∧ Below w.heap.size w w' := by
  have HR := Lib.hid h
  obtain ⟨a, c, rfl, l1, l2, l3, l4⟩ := h
  have L4 := Lib.hid l4; clear l4 l3
  by_cases hl : bs.length ≤ 2000
  · go_enter Tryd.func30, Tryd.ntmps30
    go_wp2
    go_ret
    have hb : Below w.heap.size w (w.alloc (.cells #[.slice a bs.length c, .int .i64 0] 72)) := (Below.refl _ _).alloc (Nat.le_refl _) _
    exact ⟨rfl, ⟨0, _, bs, heap_at w _, Nat.le_refl _, HR.out.below hb, HR.out.blk_lt, hl, hbs⟩, hb⟩
  · go_enter Tryd.func30, Tryd.ntmps30
    go_wp2
    go_ret
    have hb : Below w.heap.size w (w.alloc (.cells #[.slice a 2000 c, .int .i64 0] 72)) := (Below.refl _ _).alloc (Nat.le_refl _) _
    have hr := HR.out.take (n := 2000) (by omega)
    exact ⟨rfl, ⟨0, _, bs.take 2000, heap_at w _, Nat.le_refl _, hr.below hb, hr.blk_lt, by simp; omega, fun x hx => hbs x (List.mem_of_mem_take hx)⟩, hb⟩

theorem Rd.alloc {w : World} {b N : Nat} (h : Rd w b N) (o : Obj) : Rd (w.alloc o) b N := by
  obtain ⟨p, bv, bs, hb, hp, hr, hne, hl, hbs⟩ := h
  exact ⟨p, bv, bs, heap_up hb, hp, hr.below ((Below.refl _ _).alloc (Nat.le_refl _) _), hne, hl, hbs⟩
theorem Rd.mono {w : World} {b N M : Nat} (h : Rd w b N) (hN : N ≤ M) : Rd w b M := by
  obtain ⟨p, bv, bs, hb, hp, r⟩ := h
  exact ⟨p, bv, bs, hb, Nat.le_trans hp hN, r⟩
theorem Rd.below {w w' : World} {b N : Nat} (h : Rd w b N) (hb : Below w.heap.size w w') : Rd w' b N := by
  obtain ⟨p, bv, bs, hbx, hp, hr, hne, hl, hbs⟩ := h
  exact ⟨p, bv, bs, below_at hb hbx, hp, hr.below hb, hne, hl, hbs⟩
/-- A reader is as it was if no block up to its own has turned. -/
theorem Rd.off {w w' : World} {b N : Nat} (h : Rd w b N) (hk : ∀ k A, k ≤ b → w.heap[k]? = some A → w'.heap[k]? = some A) : Rd w' b N := by
  obtain ⟨p, bv, bs, hb, hp, hr, hne, hl, hbs⟩ := h
  refine ⟨p, bv, bs, hk b _ (Nat.le_refl _) hb, hp, ?_, hne, hl, hbs⟩
  obtain ⟨ad, cap, e, h1, h2, h3, h4⟩ := hr
  refine ⟨ad, cap, e, h1, h2, h3, fun hn => ?_⟩
  obtain ⟨bb, off, e2, hlt, hc⟩ := h4 hn
  have hbb : bb < b := hne hn bb (by rw [e, e2]; rfl)
  have hx : w.heap[bb]? = some w.heap[bb] := Array.getElem?_eq_getElem hlt
  have hy := hk bb _ (by omega) hx
  exact ⟨bb, off, e2, heap_lt hy, fun i x hx' j u hu => (World.cell?_of_block (a := ⟨bb, off + i * 1 + j, none⟩) (by rw [hx, hy])).trans (hc i x hx' j u hu)⟩
theorem Rd.lt {w : World} {b N : Nat} (h : Rd w b N) : b < w.heap.size := by obtain ⟨_, _, _, hx, _⟩ := h; exact heap_lt hx
end Go.Proofs.YtbnfhnfnbhigoaaDoor
