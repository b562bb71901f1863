/- FnNewSem: the law's walk. -/
import Derived.Test.YteecnndlaphlpaaDrawNewSem
import Derived.Test.YteecnndlaphlpaaSemSame
import Derived.Test.YteecnndlaphlpaaAcquire
import Derived.Test.YteecnndlaphlpaaTryAcquire
import Derived.Test.YteecnndlaphlpaaBytes
namespace Go.Proofs.Yteecnndlaphlpaa
open Go.RowKit
set_option linter.unusedSimpArgs false
set_option linter.unusedVariables false
theorem semB_free {x : Int} (h1 : 1 ≤ x) (h9 : x ≤ 9) : semB ⟨x, x, []⟩ = true := semB_yes (by simp [SemHead]; omega) (by simp) (show distB [] = true by decide) (by simp)
theorem acq_free {x : Int} (h : semB ⟨x, x, []⟩ = true) (h1 : 1 ≤ x) : acq ⟨x, x, []⟩ 0 x = (⟨0, x, []⟩, true, true) := by
  have h0 : thrB 0 = true := by decide
  simp [acq, h, h0, h1]
theorem tryAcq_none {x : Int} (h1 : 1 ≤ x) (h9 : x ≤ 9) : tryAcq ⟨0, x, []⟩ 1 = (⟨0, x, []⟩, false, true) := by
  have h : semB ⟨0, x, []⟩ = true := semB_yes (by simp [SemHead]; omega) (by simp) (show distB [] = true by decide) (by simp)
  simp [tryAcq, h, h1]
set_option maxHeartbeats 3200000 in
theorem FnNewSem_calls (v : Value) (bs : List Int) (w : World) (h : Row 1 encB w v bs) (hbs : ∀ x ∈ bs, 0 ≤ x ∧ x ≤ 255) :
    Calls Try.prog 3 #[v] w fun e w' => e = .returned (.bool true) ∧ Below w.heap.size w w' := by
  have HB := Lib.hid hbs; clear hbs
  have H0 := Lib.hid h
  obtain ⟨a, c, rfl, l1, l2, l3⟩ := h
  clear l3
  by_cases hl : bs.length ≤ 1048576
  · go_enter Try.func3, Try.ntmps3
    go_wp2_with (fail)
    refine (DrawNewSem_calls _ bs _ H0.out HB.out).mono ?_
    rintro e w1 ⟨x, rfl, hx0, hx1, hb⟩
    have B1 := Lib.hid (Below.trans (Below.refl _ _) (hb.mono (by first | omega | (simp only [szA, szS, szD, World.heap_drewN] at * <;> omega))) : Below w.heap.size w w1); have S1 := B1.out.size; have Z1 := hb.size
    clear hb
    cases hv : newSemB x
    · have hn : newSem x = SemD.zero := by simp only [newSemB, decide_eq_false_iff_not] at hv; exact if_neg hv
      have HV := Lib.hid hv; have HN := Lib.hid hn; clear hv hn
      go_wp2_with (fail)
      refine (NewSem_calls x _).mono ?_
      rw [HN.out, HV.out]
      dsimp only [SemD.zero]
      rintro e w2 ⟨qs, rfl, hs, hb⟩
      have B2 := Lib.hid (Below.trans B1.out (hb.mono (by first | omega | (simp only [szA, szS, szD, World.heap_drewN] at * <;> omega))) : Below w.heap.size w w2); have S2 := B2.out.size; have Z2 := hb.size
      have Ps2 := Lib.hid (hs.row encP_len); obtain ⟨ads, cps, rfl⟩ := hs.form
      clear hb
      clear hs
      go_wp2_with (fail)
      refine (sNewSem_calls x _).mono ?_
      rw [HN.out, HV.out]
      dsimp only [SemD.zero]
      rintro e w3 ⟨qt, rfl, ht, hb⟩
      have B3 := Lib.hid (Below.trans (Below.alloc B2.out (by first | omega | (simp only [szA, szS, szD, World.heap_drewN] at * <;> omega)) _) (hb.mono (by first | omega | (simp only [szA, szS, szD, World.heap_drewN] at * <;> omega))) : Below w.heap.size w w3); have S3 := B3.out.size; have Z3 := hb.size
      have Xs3 := Lib.hid (below_at hb (heap_at' (n := w2.heap.size) (by first | omega | (simp only [szA, szS, szD, World.heap_drewN] at * <;> omega))))
      have Ps3 := Lib.hid (Row.below (Row.alloc Ps2.out _) hb)
      have Pt3 := Lib.hid (ht.row encP_len); obtain ⟨adt, cpt, rfl⟩ := ht.form
      clear hb
      clear ht
      obtain ⟨sc30, sc31, sc32, sf30, sf31, sf32⟩ := box3 Xs3.out; have Ls3 := heap_lt Xs3.out
      go_wp2_with (fail)
      refine (SemSame_calls 0 0 0 0 _ _ [] [] _ (Row.alloc Ps3.out _) (Row.alloc Pt3.out _)).mono ?_
      rw [decide_eq_true rfl]
      rintro e w4 ⟨rfl, hb⟩
      have B4 := Lib.hid (Below.trans (Below.alloc B3.out (by first | omega | (simp only [szA, szS, szD, World.heap_drewN] at * <;> omega)) _) (hb.mono (by first | omega | (simp only [szA, szS, szD, World.heap_drewN] at * <;> omega))) : Below w.heap.size w w4); have S4 := B4.out.size; have Z4 := hb.size
      have Xs4 := Lib.hid (below_at hb (heap_up Xs3.out))
      have Xt4 := Lib.hid (below_at hb (heap_at' (n := w3.heap.size) (by first | omega | (simp only [szA, szS, szD, World.heap_drewN] at * <;> omega))))
      have Ps4 := Lib.hid (Row.below (Row.alloc Ps3.out _) hb)
      have Pt4 := Lib.hid (Row.below (Row.alloc Pt3.out _) hb)
      clear hb
      obtain ⟨sc40, sc41, sc42, sf40, sf41, sf42⟩ := box3 Xs4.out; have Ls4 := heap_lt Xs4.out
      obtain ⟨tc40, tc41, tc42, tf40, tf41, tf42⟩ := box3 Xt4.out; have Lt4 := heap_lt Xt4.out
      go_wp2_with (fail)
      refine (SemSame_calls 0 0 0 0 _ _ [] [] _ Ps4.out Pt4.out).mono ?_
      rw [decide_eq_true rfl]
      rintro e w5 ⟨rfl, hb⟩
      have B5 := Lib.hid (Below.trans B4.out (hb.mono (by first | omega | (simp only [szA, szS, szD, World.heap_drewN] at * <;> omega))) : Below w.heap.size w w5); have S5 := B5.out.size; have Z5 := hb.size
      have Xs5 := Lib.hid (below_at hb Xs4.out)
      have Xt5 := Lib.hid (below_at hb Xt4.out)
      have Ps5 := Lib.hid (Row.below Ps4.out hb)
      have Pt5 := Lib.hid (Row.below Pt4.out hb)
      clear hb
      obtain ⟨sc50, sc51, sc52, sf50, sf51, sf52⟩ := box3 Xs5.out; have Ls5 := heap_lt Xs5.out
      obtain ⟨tc50, tc51, tc52, tf50, tf51, tf52⟩ := box3 Xt5.out; have Lt5 := heap_lt Xt5.out
      go_wp2_with (fail)
      go_ret
      exact ⟨rfl, B5.out⟩
    · have hn : newSem x = ⟨x, x, []⟩ := by simp only [newSemB, decide_eq_true_eq] at hv; exact if_pos hv
      have hx : 1 ≤ x ∧ x ≤ 9 := by simpa [newSemB] using hv
      obtain ⟨hx2, hx3⟩ := hx
      have HV := Lib.hid hv; have HN := Lib.hid hn; clear hv hn
      go_wp2_with (fail)
      refine (NewSem_calls x _).mono ?_
      rw [HN.out, HV.out]
      dsimp only [SemD.zero]
      rintro e w2 ⟨qs, rfl, hs, hb⟩
      have B2 := Lib.hid (Below.trans B1.out (hb.mono (by first | omega | (simp only [szA, szS, szD, World.heap_drewN] at * <;> omega))) : Below w.heap.size w w2); have S2 := B2.out.size; have Z2 := hb.size
      have Ps2 := Lib.hid (hs.row encP_len); obtain ⟨ads, cps, rfl⟩ := hs.form
      clear hb
      clear hs
      go_wp2_with (fail)
      refine (sNewSem_calls x _).mono ?_
      rw [HN.out, HV.out]
      dsimp only [SemD.zero]
      rintro e w3 ⟨qt, rfl, ht, hb⟩
      have B3 := Lib.hid (Below.trans (Below.alloc B2.out (by first | omega | (simp only [szA, szS, szD, World.heap_drewN] at * <;> omega)) _) (hb.mono (by first | omega | (simp only [szA, szS, szD, World.heap_drewN] at * <;> omega))) : Below w.heap.size w w3); have S3 := B3.out.size; have Z3 := hb.size
      have Xs3 := Lib.hid (below_at hb (heap_at' (n := w2.heap.size) (by first | omega | (simp only [szA, szS, szD, World.heap_drewN] at * <;> omega))))
      have Ps3 := Lib.hid (Row.below (Row.alloc Ps2.out _) hb)
      have Pt3 := Lib.hid (ht.row encP_len); obtain ⟨adt, cpt, rfl⟩ := ht.form
      clear hb
      clear ht
      obtain ⟨sc30, sc31, sc32, sf30, sf31, sf32⟩ := box3 Xs3.out; have Ls3 := heap_lt Xs3.out
      go_wp2_with (fail)
      refine (SemSame_calls x x x x _ _ [] [] _ (Row.alloc Ps3.out _) (Row.alloc Pt3.out _)).mono ?_
      rw [decide_eq_true rfl]
      rintro e w4 ⟨rfl, hb⟩
      have B4 := Lib.hid (Below.trans (Below.alloc B3.out (by first | omega | (simp only [szA, szS, szD, World.heap_drewN] at * <;> omega)) _) (hb.mono (by first | omega | (simp only [szA, szS, szD, World.heap_drewN] at * <;> omega))) : Below w.heap.size w w4); have S4 := B4.out.size; have Z4 := hb.size
      have Xs4 := Lib.hid (below_at hb (heap_up Xs3.out))
      have Xt4 := Lib.hid (below_at hb (heap_at' (n := w3.heap.size) (by first | omega | (simp only [szA, szS, szD, World.heap_drewN] at * <;> omega))))
      have Ps4 := Lib.hid (Row.below (Row.alloc Ps3.out _) hb)
      have Pt4 := Lib.hid (Row.below (Row.alloc Pt3.out _) hb)
      clear hb
      obtain ⟨sc40, sc41, sc42, sf40, sf41, sf42⟩ := box3 Xs4.out; have Ls4 := heap_lt Xs4.out
      obtain ⟨tc40, tc41, tc42, tf40, tf41, tf42⟩ := box3 Xt4.out; have Lt4 := heap_lt Xt4.out
      have hs : semB ⟨x, x, []⟩ = true := semB_free hx2 hx3
      have HS := Lib.hid hs; clear hs
      go_wp2_with (fail)
      refine (Acquire_calls x x 0 x _ [] _ Ps4.out).mono ?_
      rw [acq_free HS.out hx2]
      rintro e w5 ⟨qu, rfl, hu, hb⟩
      have B5 := Lib.hid (Below.trans B4.out (hb.mono (by first | omega | (simp only [szA, szS, szD, World.heap_drewN] at * <;> omega))) : Below w.heap.size w w5); have S5 := B5.out.size; have Z5 := hb.size
      have Xs5 := Lib.hid (below_at hb Xs4.out)
      have Xt5 := Lib.hid (below_at hb Xt4.out)
      have Ps5 := Lib.hid (Row.below Ps4.out hb)
      have Pt5 := Lib.hid (Row.below Pt4.out hb)
      have Pu5 := Lib.hid (hu.row encP_len); obtain ⟨adu, cpu, rfl⟩ := hu.form
      clear hb
      clear hu
      obtain ⟨sc50, sc51, sc52, sf50, sf51, sf52⟩ := box3 Xs5.out; have Ls5 := heap_lt Xs5.out
      obtain ⟨tc50, tc51, tc52, tf50, tf51, tf52⟩ := box3 Xt5.out; have Lt5 := heap_lt Xt5.out
      go_wp2_with (fail)
      refine (TryAcquire_calls 0 x 1 _ [] _ (Row.alloc Pu5.out _)).mono ?_
      rw [tryAcq_none hx2 hx3]
      rintro e w6 ⟨qm, rfl, hm, hb⟩
      have B6 := Lib.hid (Below.trans (Below.alloc B5.out (by first | omega | (simp only [szA, szS, szD, World.heap_drewN] at * <;> omega)) _) (hb.mono (by first | omega | (simp only [szA, szS, szD, World.heap_drewN] at * <;> omega))) : Below w.heap.size w w6); have S6 := B6.out.size; have Z6 := hb.size
      have Xs6 := Lib.hid (below_at hb (heap_up Xs5.out))
      have Xt6 := Lib.hid (below_at hb (heap_up Xt5.out))
      have Xu6 := Lib.hid (below_at hb (heap_at' (n := w5.heap.size) (by first | omega | (simp only [szA, szS, szD, World.heap_drewN] at * <;> omega))))
      have Ps6 := Lib.hid (Row.below (Row.alloc Ps5.out _) hb)
      have Pt6 := Lib.hid (Row.below (Row.alloc Pt5.out _) hb)
      have Pu6 := Lib.hid (Row.below (Row.alloc Pu5.out _) hb)
      have Pm6 := Lib.hid (hm.row encP_len); obtain ⟨adm, cpm, rfl⟩ := hm.form
      clear hb
      clear hm
      obtain ⟨sc60, sc61, sc62, sf60, sf61, sf62⟩ := box3 Xs6.out; have Ls6 := heap_lt Xs6.out
      obtain ⟨tc60, tc61, tc62, tf60, tf61, tf62⟩ := box3 Xt6.out; have Lt6 := heap_lt Xt6.out
      obtain ⟨uc60, uc61, uc62, uf60, uf61, uf62⟩ := box3 Xu6.out; have Lu6 := heap_lt Xu6.out
      go_wp2_with (fail)
      refine (SemValid_calls x x _ [] _ (Row.alloc Ps6.out _)).mono ?_
      rw [HS.out]
      rintro e w7 ⟨rfl, hb⟩
      have B7 := Lib.hid (Below.trans (Below.alloc B6.out (by first | omega | (simp only [szA, szS, szD, World.heap_drewN] at * <;> omega)) _) (hb.mono (by first | omega | (simp only [szA, szS, szD, World.heap_drewN] at * <;> omega))) : Below w.heap.size w w7); have S7 := B7.out.size; have Z7 := hb.size
      have Xs7 := Lib.hid (below_at hb (heap_up Xs6.out))
      have Xt7 := Lib.hid (below_at hb (heap_up Xt6.out))
      have Xu7 := Lib.hid (below_at hb (heap_up Xu6.out))
      have Xm7 := Lib.hid (below_at hb (heap_at' (n := w6.heap.size) (by first | omega | (simp only [szA, szS, szD, World.heap_drewN] at * <;> omega))))
      have Ps7 := Lib.hid (Row.below (Row.alloc Ps6.out _) hb)
      have Pt7 := Lib.hid (Row.below (Row.alloc Pt6.out _) hb)
      have Pu7 := Lib.hid (Row.below (Row.alloc Pu6.out _) hb)
      have Pm7 := Lib.hid (Row.below (Row.alloc Pm6.out _) hb)
      clear hb
      obtain ⟨sc70, sc71, sc72, sf70, sf71, sf72⟩ := box3 Xs7.out; have Ls7 := heap_lt Xs7.out
      obtain ⟨tc70, tc71, tc72, tf70, tf71, tf72⟩ := box3 Xt7.out; have Lt7 := heap_lt Xt7.out
      obtain ⟨uc70, uc71, uc72, uf70, uf71, uf72⟩ := box3 Xu7.out; have Lu7 := heap_lt Xu7.out
      obtain ⟨mc70, mc71, mc72, mf70, mf71, mf72⟩ := box3 Xm7.out; have Lm7 := heap_lt Xm7.out
      go_wp2_with (fail)
      go_ret
      exact ⟨rfl, B7.out⟩
  · go_enter Try.func3, Try.ntmps3
    go_wp2
    go_ret
    exact ⟨rfl, Below.refl _ _⟩
end Go.Proofs.Yteecnndlaphlpaa
