/- FnNewChan: the law's walk (made by gen_chanlaws.py). -/
import Derived.Test.YtpgiinklbnlloaaLawNewChan
namespace Go.Proofs.Ytpgiinklbnlloaa
open Go.RowKit
set_option linter.unusedSimpArgs false
set_option linter.unusedVariables false
set_option maxHeartbeats 8000000 in
theorem FnNewChan_calls (v : Value) (bs : List Int) (w : World) (h : Row 1 encB w v bs) (hbs : ∀ x ∈ bs, 0 ≤ x ∧ x ≤ 255) :
    Calls Try.prog 4 #[v] w fun e w' => e = .returned (.bool true) ∧ Below w.heap.size w w' := by
  have HB := Lib.hid hbs; clear hbs
  have H0 := Lib.hid h
  obtain ⟨a, c, rfl, l1, l2, l3⟩ := h
  clear l3
  by_cases hl : bs.length ≤ 1048576
  · go_enter Try.func4, Try.ntmps4
    go_wp2_with (fail)
    refine (DrawNewChan_calls _ bs _ (Row.below H0.out (Below.refl _ _)) HB.out).mono ?_
    rintro e w1 ⟨l, rfl, ⟨hl0, hl1⟩, hb⟩
    have B1 := Lib.hid (Below.trans (Below.refl _ _) (hb.mono (by first | omega | (simp only [szA, szS, szD, World.heap_drewN] at * <;> omega))) : Below w.heap.size w w1)
    have Z1 := hb.size
    have N1 : w.heap.size ≤ w1.heap.size := (by first | with_reducible exact Z1 | (simp only [szA, szS, szD] at Z1; omega))
    clear Z1
    clear hb
    have S1 : w.heap.size ≤ w1.heap.size := (by omega)
    obtain ⟨r, b1, hr⟩ : ∃ r b1, newChan l = (r, b1) := ⟨_, _, rfl⟩
    have HR := Lib.hid hr; clear hr
    go_wp2_with (fail)
    refine (NewChanO l r b1 _ HR.out).mono ?_
    rintro e w2 ⟨vx, rfl, ho_x, hb⟩
    have B2 := Lib.hid (Below.trans B1.out (hb.mono (by first | omega | (simp only [szA, szS, szD, World.heap_drewN] at * <;> omega))) : Below w.heap.size w w2)
    have Z2 := hb.size
    have N2 : w1.heap.size ≤ w2.heap.size := (by first | with_reducible exact Z2 | (simp only [szA, szS, szD] at Z2; omega))
    clear Z2
    have Ox_2 := Lib.hid (ho_x.mono (lo' := w.heap.size) (by first | omega | (simp only [szA, szS, szD, World.heap_drewN] at * <;> omega)) (Nat.le_refl _)); obtain ⟨ax1, px1, ax2, px2, ax3, px3, rfl, hx_x⟩ := ho_x; clear hx_x
    clear hb
    have S2 : w.heap.size ≤ w2.heap.size := (by omega)
    go_wp2_with (fail)
    refine (sNewChanO l r b1 _ HR.out).mono ?_
    rintro e w3 ⟨vt, rfl, ho_t, hb⟩
    have B3 := Lib.hid (Below.trans (Below.alloc B2.out (by first | omega | (simp only [szA, szS, szD, World.heap_drewN] at * <;> omega)) _) (hb.mono (by first | omega | (simp only [szA, szS, szD, World.heap_drewN] at * <;> omega))) : Below w.heap.size w w3)
    have Z3 := hb.size
    have N3 : w2.heap.size + 1 ≤ w3.heap.size := (by first | with_reducible exact Z3 | (simp only [szA, szS, szD] at Z3; omega))
    clear Z3
    have Xx_3 : Hid (w3.heap[w2.heap.size]? = some (.cells #[.int .i64 r.room, .slice ax1 r.items.length px1, .slice ax2 r.senders.length px2, .slice ax3 r.getters.length px3, .bool r.closed] 25 (0, 0))) := below_at hb (heap_at' (n := w2.heap.size) (by first | omega | (simp only [szA, szS, szD, World.heap_drewN] at * <;> omega)))
    have Ox_3 := Lib.hid ((Ox_2.out.alloc _).kept hb)
    have Ot_3 := Lib.hid (ho_t.mono (lo' := w.heap.size) (by first | omega | (simp only [szA, szS, szD, World.heap_drewN] at * <;> omega)) (Nat.le_refl _)); obtain ⟨at1, pt1, at2, pt2, at3, pt3, rfl, hx_t⟩ := ho_t; clear hx_t
    clear hb
    obtain ⟨cx3_0, cx3_1, cx3_2, cx3_3, cx3_4, fx3_0, fx3_1, fx3_2, fx3_3, fx3_4⟩ := box5 Xx_3.out; have lx3 := heap_lt Xx_3.out
    have S3 : w.heap.size ≤ w3.heap.size := (by omega)
    go_wp2_with (fail)
    refine (ChanSameO _ _ r r _ ((Ox_3.out.alloc _).row) ((Ot_3.out.alloc _).row)).mono ?_
    rw [decide_eq_true rfl]
    rintro e w4 ⟨rfl, hb⟩
    have B4 := Lib.hid (Below.trans (Below.alloc B3.out (by first | omega | (simp only [szA, szS, szD, World.heap_drewN] at * <;> omega)) _) (hb.mono (by first | omega | (simp only [szA, szS, szD, World.heap_drewN] at * <;> omega))) : Below w.heap.size w w4)
    have Z4 := hb.size
    have N4 : w3.heap.size + 1 ≤ w4.heap.size := (by first | with_reducible exact Z4 | (simp only [szA, szS, szD] at Z4; omega))
    clear Z4
    have Xx_4 := Lib.hid (below_at hb (heap_up Xx_3.out))
    have Xt_4 : Hid (w4.heap[w3.heap.size]? = some (.cells #[.int .i64 r.room, .slice at1 r.items.length pt1, .slice at2 r.senders.length pt2, .slice at3 r.getters.length pt3, .bool r.closed] 25 (0, 0))) := below_at hb (heap_at' (n := w3.heap.size) (by first | omega | (simp only [szA, szS, szD, World.heap_drewN] at * <;> omega)))
    have Ox_4 := Lib.hid ((Ox_3.out.alloc _).kept hb)
    have Ot_4 := Lib.hid ((Ot_3.out.alloc _).kept hb)
    clear hb
    obtain ⟨cx4_0, cx4_1, cx4_2, cx4_3, cx4_4, fx4_0, fx4_1, fx4_2, fx4_3, fx4_4⟩ := box5 Xx_4.out; have lx4 := heap_lt Xx_4.out
    obtain ⟨ct4_0, ct4_1, ct4_2, ct4_3, ct4_4, ft4_0, ft4_1, ft4_2, ft4_3, ft4_4⟩ := box5 Xt_4.out; have lt4 := heap_lt Xt_4.out
    have S4 : w.heap.size ≤ w4.heap.size := (by omega)
    clear cx3_0 cx3_1 cx3_2 cx3_3 cx3_4 fx3_0 fx3_1 fx3_2 fx3_3 fx3_4
    cases b1
    · go_wp2_with (fail)
      refine (ChanSameO _ _ r r _ (Ox_4.out.row) (Ot_4.out.row)).mono ?_
      rw [decide_eq_true rfl]
      rintro e w5 ⟨rfl, hb⟩
      have B5 := Lib.hid (Below.trans B4.out (hb.mono (by first | omega | (simp only [szA, szS, szD, World.heap_drewN] at * <;> omega))) : Below w.heap.size w w5)
      have Z5 := hb.size
      have N5 : w4.heap.size ≤ w5.heap.size := (by first | with_reducible exact Z5 | (simp only [szA, szS, szD] at Z5; omega))
      clear Z5
      have Xx_5 := Lib.hid (below_at hb Xx_4.out)
      have Xt_5 := Lib.hid (below_at hb Xt_4.out)
      have Ox_5 := Lib.hid (Ox_4.out.kept hb)
      have Ot_5 := Lib.hid (Ot_4.out.kept hb)
      clear hb
      obtain ⟨cx5_0, cx5_1, cx5_2, cx5_3, cx5_4, fx5_0, fx5_1, fx5_2, fx5_3, fx5_4⟩ := box5 Xx_5.out; have lx5 := heap_lt Xx_5.out
      obtain ⟨ct5_0, ct5_1, ct5_2, ct5_3, ct5_4, ft5_0, ft5_1, ft5_2, ft5_3, ft5_4⟩ := box5 Xt_5.out; have lt5 := heap_lt Xt_5.out
      have S5 : w.heap.size ≤ w5.heap.size := (by omega)
      clear cx4_0 cx4_1 cx4_2 cx4_3 cx4_4 fx4_0 fx4_1 fx4_2 fx4_3 fx4_4 ct4_0 ct4_1 ct4_2 ct4_3 ct4_4 ft4_0 ft4_1 ft4_2 ft4_3 ft4_4
      go_wp2_with (fail)
      go_ret
      exact ⟨rfl, B5.out⟩
    · obtain ⟨n, e1, hn, e2⟩ := newChan_ok HR.out
      subst e1
      have E2 := Lib.hid e2; clear e2
      go_wp2_with (fail)
      go_loopw [8] (fun v wr => ∃ (k : Nat) (c : ChanD) (a1 : Option Addr) (p1 : Nat) (a2 : Option Addr) (p2 : Nat) (a3 : Option Addr) (p3 : Nat), k ≤ n + 1 ∧ v = .int .i64 k ∧ c = chanK n k ∧ wr.heap[w2.heap.size]? = some (.cells #[.int .i64 c.room, .slice a1 c.items.length p1, .slice a2 c.senders.length p2, .slice a3 c.getters.length p3, .bool c.closed] 25 (0, 0)) ∧ ChanOwn w.heap.size wr.heap.size wr (.agg #[.int .i64 c.room, .slice a1 c.items.length p1, .slice a2 c.senders.length p2, .slice a3 c.getters.length p3, .bool c.closed]) c ∧ Below w.heap.size w wr) (fun v _ => n + 1 - (intOf v).toNat)
      case atStart => exact ⟨0, r, _, _, _, _, _, _, by omega, rfl, E2.out, Xx_4.out, Ox_4.out.mono (Nat.le_refl _) (by first | omega | (simp only [szA, szS, szD]; omega)), B4.out⟩
      case round =>
        obtain ⟨w20, rfl⟩ : ∃ x : World, x = wr := ⟨_, rfl⟩
        obtain ⟨k, c, ac1, pc1, ac2, pc2, ac3, pc3, hk, rfl, hc, hx, ho, hb⟩ := hrel
        have Xc_20 := Lib.hid hx; have Oc_20 := Lib.hid ho; have HC := Lib.hid hc; have B20 := Lib.hid hb; have S20 := hb.size; clear hx ho hc hb
        have hsm : c.items.length + c.senders.length + c.getters.length ≤ 10 := by rw [HC.out]; exact newK_small hn hk
        obtain ⟨cc20_0, cc20_1, cc20_2, cc20_3, cc20_4, fc20_0, fc20_1, fc20_2, fc20_3, fc20_4⟩ := box5 Xc_20.out; have lc20 := heap_lt Xc_20.out
        by_cases hkn : k ≤ n
        · have d1 : decide ((k : Int) ≤ (n : Int)) = true := decide_eq_true (by omega)
          obtain ⟨r', hr'⟩ : ∃ r', r' = chanK n (k + 1) := ⟨_, rfl⟩
          have HE := Lib.hid (newK_step hn hkn)
          rw [← HC.out, ← hr'] at HE
          have HR' := Lib.hid hr'; clear hr'
          by_cases hlt : k < n
          · rw [decide_eq_true hlt] at HE
            have d2 : decide ((k : Int) < (n : Int)) = true := decide_eq_true (by omega)
            go_wp2_with (fail)
            refine (SendChanO _ c 0 (k : Int) r' [] true true _ (Oc_20.out.row) (by omega) HE.out).mono ?_
            rintro e w21 ⟨vn, vy, rfl, ho_n, ho_y, hb⟩
            have B21 := Lib.hid (Below.trans B20.out (hb.mono (by first | omega | (simp only [szA, szS, szD, World.heap_drewN] at * <;> omega))) : Below w.heap.size w w21)
            have Z21 := hb.size
            have N21 : w20.heap.size ≤ w21.heap.size := (by first | with_reducible exact Z21 | (simp only [szA, szS, szD] at Z21; omega))
            clear Z21
            have Xc_21 := Lib.hid (below_at hb Xc_20.out)
            have Oc_21 := Lib.hid (Oc_20.out.kept hb)
            have On_21 := Lib.hid (ho_n.mono (lo' := w.heap.size) (by first | omega | (simp only [szA, szS, szD, World.heap_drewN] at * <;> omega)) (Nat.le_refl _)); obtain ⟨an1, pn1, an2, pn2, an3, pn3, rfl, hx_n⟩ := ho_n; clear hx_n
            have Oy_21 := Lib.hid (Own.mono (base' := w.heap.size) ho_y.own (by first | omega | (simp only [szA, szS, szD, World.heap_drewN] at * <;> omega))); obtain ⟨ay, py, rfl, hx_y⟩ := ho_y; clear hx_y
            clear hb
            obtain ⟨cc21_0, cc21_1, cc21_2, cc21_3, cc21_4, fc21_0, fc21_1, fc21_2, fc21_3, fc21_4⟩ := box5 Xc_21.out; have lc21 := heap_lt Xc_21.out
            have S21 : w.heap.size ≤ w21.heap.size := (by omega)
            go_wp2_with (fail)
            go_roundw
            case rel => exact ⟨k + 1, r', _, _, _, _, _, _, by omega, by go_num, HR'.out, (heap_up (sets5_at Xc_21.out (.int .i64 r'.room) (.slice an1 r'.items.length pn1) (.slice an2 r'.senders.length pn2) (.slice an3 r'.getters.length pn3) (.bool r'.closed))), ((On_21.out.grownX (sets5_grown _ (w2.heap.size) (.int .i64 r'.room) (.slice an1 r'.items.length pn1) (.slice an2 r'.senders.length pn2) (.slice an3 r'.getters.length pn3) (.bool r'.closed)) Xc_21.out (by decide)).alloc _).mono (Nat.le_refl _) (by first | omega | (simp only [szA, szS, szD]; omega)), (Below.alloc (sets5_below B21.out (by first | omega | (simp only [szA, szS, szD, World.heap_drewN] at * <;> omega)) (.int .i64 r'.room) (.slice an1 r'.items.length pn1) (.slice an2 r'.senders.length pn2) (.slice an3 r'.getters.length pn3) (.bool r'.closed)) (by first | omega | (simp only [szA, szS, szD, World.heap_drewN] at * <;> omega)) _)⟩
            case measure => simp [intOf]; omega
          · rw [decide_eq_false hlt] at HE
            have d2 : decide ((k : Int) < (n : Int)) = false := decide_eq_false (by omega)
            go_wp2_with (fail)
            refine (SendChanO _ c 0 (k : Int) r' [] false true _ (Oc_20.out.row) (by omega) HE.out).mono ?_
            rintro e w21 ⟨vn, vy, rfl, ho_n, ho_y, hb⟩
            have B21 := Lib.hid (Below.trans B20.out (hb.mono (by first | omega | (simp only [szA, szS, szD, World.heap_drewN] at * <;> omega))) : Below w.heap.size w w21)
            have Z21 := hb.size
            have N21 : w20.heap.size ≤ w21.heap.size := (by first | with_reducible exact Z21 | (simp only [szA, szS, szD] at Z21; omega))
            clear Z21
            have Xc_21 := Lib.hid (below_at hb Xc_20.out)
            have Oc_21 := Lib.hid (Oc_20.out.kept hb)
            have On_21 := Lib.hid (ho_n.mono (lo' := w.heap.size) (by first | omega | (simp only [szA, szS, szD, World.heap_drewN] at * <;> omega)) (Nat.le_refl _)); obtain ⟨an1, pn1, an2, pn2, an3, pn3, rfl, hx_n⟩ := ho_n; clear hx_n
            have Oy_21 := Lib.hid (Own.mono (base' := w.heap.size) ho_y.own (by first | omega | (simp only [szA, szS, szD, World.heap_drewN] at * <;> omega))); obtain ⟨ay, py, rfl, hx_y⟩ := ho_y; clear hx_y
            clear hb
            obtain ⟨cc21_0, cc21_1, cc21_2, cc21_3, cc21_4, fc21_0, fc21_1, fc21_2, fc21_3, fc21_4⟩ := box5 Xc_21.out; have lc21 := heap_lt Xc_21.out
            have S21 : w.heap.size ≤ w21.heap.size := (by omega)
            go_wp2_with (fail)
            go_roundw
            case rel => exact ⟨k + 1, r', _, _, _, _, _, _, by omega, by go_num, HR'.out, (heap_up (sets5_at Xc_21.out (.int .i64 r'.room) (.slice an1 r'.items.length pn1) (.slice an2 r'.senders.length pn2) (.slice an3 r'.getters.length pn3) (.bool r'.closed))), ((On_21.out.grownX (sets5_grown _ (w2.heap.size) (.int .i64 r'.room) (.slice an1 r'.items.length pn1) (.slice an2 r'.senders.length pn2) (.slice an3 r'.getters.length pn3) (.bool r'.closed)) Xc_21.out (by decide)).alloc _).mono (Nat.le_refl _) (by first | omega | (simp only [szA, szS, szD]; omega)), (Below.alloc (sets5_below B21.out (by first | omega | (simp only [szA, szS, szD, World.heap_drewN] at * <;> omega)) (.int .i64 r'.room) (.slice an1 r'.items.length pn1) (.slice an2 r'.senders.length pn2) (.slice an3 r'.getters.length pn3) (.bool r'.closed)) (by first | omega | (simp only [szA, szS, szD, World.heap_drewN] at * <;> omega)) _)⟩
            case measure => simp [intOf]; omega
        · obtain rfl : k = n + 1 := by omega
          have hf := newK_fin hn
          rw [← HC.out] at hf
          obtain ⟨f1, f2, f3⟩ := hf
          have F1 := Lib.hid f1; clear f1
          have d1 : ((c.items.length : Int) == (n : Int)) = true := beq_iff_eq.2 (by omega)
          have d2 : ((c.senders.length : Int) == 1) = true := beq_iff_eq.2 (by omega)
          have d3 : (c.items.length == n) = true := beq_iff_eq.2 f2
          have d4 : (c.senders.length == 1) = true := beq_iff_eq.2 f3
          have d5 : decide (((n + 1 : Nat) : Int) ≤ (n : Int)) = false := decide_eq_false (by omega)
          clear f2 f3
          go_wp2_with (fail)
          refine (ChanValid_calls _ c _ (Oc_20.out.row) (by omega)).mono ?_
          rw [F1.out]
          rintro e w21 ⟨rfl, hb⟩
          have B21 := Lib.hid (Below.trans B20.out (hb.mono (by first | omega | (simp only [szA, szS, szD, World.heap_drewN] at * <;> omega))) : Below w.heap.size w w21)
          have Z21 := hb.size
          have N21 : w20.heap.size ≤ w21.heap.size := (by first | with_reducible exact Z21 | (simp only [szA, szS, szD] at Z21; omega))
          clear Z21
          have Xc_21 := Lib.hid (below_at hb Xc_20.out)
          have Oc_21 := Lib.hid (Oc_20.out.kept hb)
          clear hb
          obtain ⟨cc21_0, cc21_1, cc21_2, cc21_3, cc21_4, fc21_0, fc21_1, fc21_2, fc21_3, fc21_4⟩ := box5 Xc_21.out; have lc21 := heap_lt Xc_21.out
          have S21 : w.heap.size ≤ w21.heap.size := (by omega)
          go_wp2_with (fail)
          go_ret
          exact ⟨rfl, B21.out⟩

  · go_enter Try.func4, Try.ntmps4
    go_wp2
    go_ret
    exact ⟨rfl, Below.refl _ _⟩
end Go.Proofs.Ytpgiinklbnlloaa
