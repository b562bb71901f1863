/- FnChanSides: the law's walk (made by gen_chanlaws.py). -/
import Derived.Test.YtpgiinklbnlloaaDrawsChan
import Derived.Test.YtpgiinklbnlloaaLawChan
import Derived.Test.YtpgiinklbnlloaaBytes
namespace Go.Proofs.Ytpgiinklbnlloaa
open Go.RowKit
set_option linter.unusedSimpArgs false
set_option linter.unusedVariables false
set_option maxHeartbeats 8000000 in
theorem FnChanSides_calls (v : Value) (bs : List Int) (w : World) (h : Row 1 encB w v bs) (hbs : ∀ x ∈ bs, 0 ≤ x ∧ x ≤ 255) :
    Calls Try.prog 7 #[v] w fun e w' => e = .returned (.bool true) ∧ Below w.heap.size w w' := by
  have HB := Lib.hid hbs; clear hbs
  have H0 := Lib.hid h
  obtain ⟨a, c, rfl, l1, l2, l3⟩ := h
  clear l3
  by_cases hl : bs.length ≤ 1048576
  · go_enter Try.func7, Try.ntmps7
    go_wp2_with (fail)
    refine (DrawChanValid_calls _ bs _ (Row.below H0.out (Below.refl _ _)) HB.out).mono ?_
    rintro e w1 ⟨vs, cs, rfl, ho_s, hfs, hb⟩
    have B1 := Lib.hid (Below.trans (Below.refl _ _) (hb.mono (by first | omega | (simp only [szA, szS, szD, World.heap_drewN] at * <;> omega))) : Below w.heap.size w w1)
    have Z1 := hb.size
    have N1 : w.heap.size ≤ w1.heap.size := (by first | with_reducible exact Z1 | (simp only [szA, szS, szD] at Z1; omega))
    clear Z1
    have Os_1 := Lib.hid (ho_s.mono (lo' := w.heap.size) (by first | omega | (simp only [szA, szS, szD, World.heap_drewN] at * <;> omega)) (Nat.le_refl _)); obtain ⟨as1, ps1, as2, ps2, as3, ps3, rfl, hx_s⟩ := ho_s; clear hx_s
    clear hb
    have S1 : w.heap.size ≤ w1.heap.size := (by omega)
    have HN := Lib.hid (few_small hfs (by decide)); clear hfs
    cases hv : chanB cs
    · have HV := Lib.hid hv; clear hv
      go_wp2_with (fail)
      refine (ChanValid_calls _ cs _ ((Os_1.out.alloc _).row) HN.out).mono ?_
      rw [HV.out]
      rintro e w2 ⟨rfl, hb⟩
      have B2 := Lib.hid (Below.trans (Below.alloc B1.out (by first | omega | (simp only [szA, szS, szD, World.heap_drewN] at * <;> omega)) _) (hb.mono (by first | omega | (simp only [szA, szS, szD, World.heap_drewN] at * <;> omega))) : Below w.heap.size w w2)
      have Z2 := hb.size
      have N2 : w1.heap.size + 1 ≤ w2.heap.size := (by first | with_reducible exact Z2 | (simp only [szA, szS, szD] at Z2; omega))
      clear Z2
      have Xs_2 : Hid (w2.heap[w1.heap.size]? = some (.cells #[.int .i64 cs.room, .slice as1 cs.items.length ps1, .slice as2 cs.senders.length ps2, .slice as3 cs.getters.length ps3, .bool cs.closed] 25 (0, 0))) := below_at hb (heap_at' (n := w1.heap.size) (by first | omega | (simp only [szA, szS, szD, World.heap_drewN] at * <;> omega)))
      have Os_2 := Lib.hid ((Os_1.out.alloc _).kept hb)
      clear hb
      obtain ⟨cs2_0, cs2_1, cs2_2, cs2_3, cs2_4, fs2_0, fs2_1, fs2_2, fs2_3, fs2_4⟩ := box5 Xs_2.out; have ls2 := heap_lt Xs_2.out
      have S2 : w.heap.size ≤ w2.heap.size := (by omega)
      go_wp2_with (fail)
      refine (sChanValid_calls _ cs _ (Os_2.out.row) HN.out).mono ?_
      rw [HV.out]
      rintro e w3 ⟨rfl, hb⟩
      have B3 := Lib.hid (Below.trans B2.out (hb.mono (by first | omega | (simp only [szA, szS, szD, World.heap_drewN] at * <;> omega))) : Below w.heap.size w w3)
      have Z3 := hb.size
      have N3 : w2.heap.size ≤ w3.heap.size := (by first | with_reducible exact Z3 | (simp only [szA, szS, szD] at Z3; omega))
      clear Z3
      have Xs_3 := Lib.hid (below_at hb Xs_2.out)
      have Os_3 := Lib.hid (Os_2.out.kept hb)
      clear hb
      obtain ⟨cs3_0, cs3_1, cs3_2, cs3_3, cs3_4, fs3_0, fs3_1, fs3_2, fs3_3, fs3_4⟩ := box5 Xs_3.out; have ls3 := heap_lt Xs_3.out
      have S3 : w.heap.size ≤ w3.heap.size := (by omega)
      clear cs2_0 cs2_1 cs2_2 cs2_3 cs2_4 fs2_0 fs2_1 fs2_2 fs2_3 fs2_4
      go_wp2_with (fail)
      refine (sChanValid_calls _ cs _ (Os_3.out.row) HN.out).mono ?_
      rw [HV.out]
      rintro e w4 ⟨rfl, hb⟩
      have B4 := Lib.hid (Below.trans B3.out (hb.mono (by first | omega | (simp only [szA, szS, szD, World.heap_drewN] at * <;> omega))) : Below w.heap.size w w4)
      have Z4 := hb.size
      have N4 : w3.heap.size ≤ w4.heap.size := (by first | with_reducible exact Z4 | (simp only [szA, szS, szD] at Z4; omega))
      clear Z4
      have Xs_4 := Lib.hid (below_at hb Xs_3.out)
      have Os_4 := Lib.hid (Os_3.out.kept hb)
      clear hb
      obtain ⟨cs4_0, cs4_1, cs4_2, cs4_3, cs4_4, fs4_0, fs4_1, fs4_2, fs4_3, fs4_4⟩ := box5 Xs_4.out; have ls4 := heap_lt Xs_4.out
      have S4 : w.heap.size ≤ w4.heap.size := (by omega)
      clear cs3_0 cs3_1 cs3_2 cs3_3 cs3_4 fs3_0 fs3_1 fs3_2 fs3_3 fs3_4
      go_wp2_with (fail)
      go_ret
      exact ⟨rfl, B4.out⟩
    · have HV := Lib.hid hv; clear hv
      go_wp2_with (fail)
      refine (ChanValid_calls _ cs _ ((Os_1.out.alloc _).row) HN.out).mono ?_
      rw [HV.out]
      rintro e w2 ⟨rfl, hb⟩
      have B2 := Lib.hid (Below.trans (Below.alloc B1.out (by first | omega | (simp only [szA, szS, szD, World.heap_drewN] at * <;> omega)) _) (hb.mono (by first | omega | (simp only [szA, szS, szD, World.heap_drewN] at * <;> omega))) : Below w.heap.size w w2)
      have Z2 := hb.size
      have N2 : w1.heap.size + 1 ≤ w2.heap.size := (by first | with_reducible exact Z2 | (simp only [szA, szS, szD] at Z2; omega))
      clear Z2
      have Xs_2 : Hid (w2.heap[w1.heap.size]? = some (.cells #[.int .i64 cs.room, .slice as1 cs.items.length ps1, .slice as2 cs.senders.length ps2, .slice as3 cs.getters.length ps3, .bool cs.closed] 25 (0, 0))) := below_at hb (heap_at' (n := w1.heap.size) (by first | omega | (simp only [szA, szS, szD, World.heap_drewN] at * <;> omega)))
      have Os_2 := Lib.hid ((Os_1.out.alloc _).kept hb)
      clear hb
      obtain ⟨cs2_0, cs2_1, cs2_2, cs2_3, cs2_4, fs2_0, fs2_1, fs2_2, fs2_3, fs2_4⟩ := box5 Xs_2.out; have ls2 := heap_lt Xs_2.out
      have S2 : w.heap.size ≤ w2.heap.size := (by omega)
      go_wp2_with (fail)
      refine (sChanValid_calls _ cs _ (Os_2.out.row) HN.out).mono ?_
      rw [HV.out]
      rintro e w3 ⟨rfl, hb⟩
      have B3 := Lib.hid (Below.trans B2.out (hb.mono (by first | omega | (simp only [szA, szS, szD, World.heap_drewN] at * <;> omega))) : Below w.heap.size w w3)
      have Z3 := hb.size
      have N3 : w2.heap.size ≤ w3.heap.size := (by first | with_reducible exact Z3 | (simp only [szA, szS, szD] at Z3; omega))
      clear Z3
      have Xs_3 := Lib.hid (below_at hb Xs_2.out)
      have Os_3 := Lib.hid (Os_2.out.kept hb)
      clear hb
      obtain ⟨cs3_0, cs3_1, cs3_2, cs3_3, cs3_4, fs3_0, fs3_1, fs3_2, fs3_3, fs3_4⟩ := box5 Xs_3.out; have ls3 := heap_lt Xs_3.out
      have S3 : w.heap.size ≤ w3.heap.size := (by omega)
      clear cs2_0 cs2_1 cs2_2 cs2_3 cs2_4 fs2_0 fs2_1 fs2_2 fs2_3 fs2_4
      obtain ⟨y, hy⟩ : ∃ y, cs.items ++ cs.senders.map (·.2) = y := ⟨_, rfl⟩
      have HP := Lib.hid (pend_yes HV.out)
      rw [hy] at HP
      have hyl : y.length = cs.items.length + cs.senders.length := by rw [← hy]; simp
      clear hy
      obtain ⟨m1, m2⟩ := (chanB_true.1 HV.out).small
      obtain ⟨s1, s2⟩ := sides HV.out
      have S1 := Lib.hid s1; have S2 := Lib.hid s2; clear s1 s2
      go_wp2_with (fail)
      refine (PendingOfO _ cs y true _ (Os_3.out.row) HN.out HP.out).mono ?_
      rintro e w4 ⟨vy, rfl, ho_y, hb⟩
      have B4 := Lib.hid (Below.trans B3.out (hb.mono (by first | omega | (simp only [szA, szS, szD, World.heap_drewN] at * <;> omega))) : Below w.heap.size w w4)
      have Z4 := hb.size
      have N4 : w3.heap.size ≤ w4.heap.size := (by first | with_reducible exact Z4 | (simp only [szA, szS, szD] at Z4; omega))
      clear Z4
      have Xs_4 := Lib.hid (below_at hb Xs_3.out)
      have Os_4 := Lib.hid (Os_3.out.kept hb)
      have Oy_4 := Lib.hid (Own.mono (base' := w.heap.size) ho_y.own (by first | omega | (simp only [szA, szS, szD, World.heap_drewN] at * <;> omega))); obtain ⟨ay, py, rfl, hx_y⟩ := ho_y; clear hx_y
      clear hb
      obtain ⟨cs4_0, cs4_1, cs4_2, cs4_3, cs4_4, fs4_0, fs4_1, fs4_2, fs4_3, fs4_4⟩ := box5 Xs_4.out; have ls4 := heap_lt Xs_4.out
      have S4 : w.heap.size ≤ w4.heap.size := (by omega)
      clear cs3_0 cs3_1 cs3_2 cs3_3 cs3_4 fs3_0 fs3_1 fs3_2 fs3_3 fs3_4
      by_cases hs : 0 < cs.senders.length
      · have e1 := len_ne hs
        have e2 := len_eq (n := cs.getters.length) (by have := (S1.out hs).2.1; omega)
        have e9 : ((y.length : Int) == (cs.items.length : Int) + (cs.senders.length : Int)) = true := beq_iff_eq.2 (by omega)
        have e8 : (y.length == cs.items.length + cs.senders.length) = true := beq_iff_eq.2 (by omega)
        go_wp2_with (fail)
        go_ret
        exact ⟨rfl, B4.out⟩
      · have e1 := len_eq hs
        by_cases hg : 0 < cs.getters.length
        · have hg' := len_ne hg
          have hy0 : ¬ 0 < y.length := by rcases S2.out with h | h <;> omega
          have e3 := len_eq hy0
          have e9 : ((y.length : Int) == (cs.items.length : Int) + (cs.senders.length : Int)) = true := beq_iff_eq.2 (by omega)
          have e8 : (y.length == cs.items.length + cs.senders.length) = true := beq_iff_eq.2 (by omega)
          go_wp2_with (fail)
          go_ret
          exact ⟨rfl, B4.out⟩
        · have e2 := len_eq hg
          have e9 : ((y.length : Int) == (cs.items.length : Int) + (cs.senders.length : Int)) = true := beq_iff_eq.2 (by omega)
          have e8 : (y.length == cs.items.length + cs.senders.length) = true := beq_iff_eq.2 (by omega)
          go_wp2_with (fail)
          go_ret
          exact ⟨rfl, B4.out⟩

  · go_enter Try.func7, Try.ntmps7
    go_wp2
    go_ret
    exact ⟨rfl, Below.refl _ _⟩
end Go.Proofs.Ytpgiinklbnlloaa
