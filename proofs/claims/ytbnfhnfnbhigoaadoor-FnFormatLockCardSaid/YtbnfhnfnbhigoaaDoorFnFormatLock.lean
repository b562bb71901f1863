/- FnFormatLock: the law's walk (made by gen_semlaws.py). -/
import Derived.Test.YtbnfhnfnbhigoaaDoorDrawFmtLock
import Derived.Test.YtbnfhnfnbhigoaaDoorFmtLockI
import Derived.Test.YtbnfhnfnbhigoaaDoorFmtLockS
import Derived.Test.YtbnfhnfnbhigoaaDoorLawFmtLock
import Derived.Test.YtbnfhnfnbhigoaaDoorLockSame
import Derived.Test.YtbnfhnfnbhigoaaDoorLockNew
import Derived.Test.YtbnfhnfnbhigoaaDoorBytes
namespace Go.Proofs.YtbnfhnfnbhigoaaDoor
open Go.RowKit
set_option linter.unusedSimpArgs false
set_option linter.unusedVariables false
set_option maxHeartbeats 8000000 in
theorem FnFormatLock_calls (v : Value) (bs : List Int) (w : World) (h : Row 1 encB w v bs) (hbs : ∀ x ∈ bs, 0 ≤ x ∧ x ≤ 255) :
    Calls Tryd.prog 6 #[v] w fun e w' => e = .returned (.bool true) ∧ Below w.heap.size w w' := by
  have HB := Lib.hid hbs; clear hbs
  have H0 := Lib.hid h
  obtain ⟨a, c, rfl, l1, l2, l3⟩ := h
  clear l3
  by_cases hl : bs.length ≤ 1048576
  · go_enter Tryd.func6, Tryd.ntmps6
    go_wp2_with (fail)
    refine (DrawFormatLock_calls _ bs _ (Row.below H0.out (Below.refl _ _)) HB.out).mono ?_
    rintro e w1 ⟨vs, cs, rfl, ho_s, hfs, hb⟩
    have B1 := Lib.hid (Below.trans (Below.refl _ _) (hb.mono (by first | omega | (simp only [szA, szS, szD, World.heap_drewN] at * <;> omega))) : Below w.heap.size w w1)
    have Z1 := hb.size
    have N1 : w.heap.size ≤ w1.heap.size := (by first | with_reducible exact Z1 | (simp only [szA, szS, szD] at Z1; omega))
    clear Z1
    have Os_1 := Lib.hid (ho_s.mono (lo' := w.heap.size) (by first | omega | (simp only [szA, szS, szD, World.heap_drewN] at * <;> omega)) (Nat.le_refl _)); obtain ⟨as0, ps0, as2, ps2, rfl, hx_s⟩ := ho_s; clear hx_s
    clear hb
    have S1 : w.heap.size ≤ w1.heap.size := (by omega)
    have HN := Lib.hid (show cs.readers.length + cs.q.length ≤ 1048576 by unfold LockFew at hfs; omega); clear hfs
    obtain ⟨s, hs⟩ : ∃ s, fmtL cs = s := ⟨_, rfl⟩
    have HS := Lib.hid hs; clear hs
    go_wp2_with (fail)
    refine (FormatLock_calls _ cs _ ((Os_1.out.alloc _).row) HN.out).mono ?_
    rw [HS.out]
    rintro e w2 ⟨rfl, hb⟩
    have B2 := Lib.hid (Below.trans (Below.alloc B1.out (by first | omega | (simp only [szA, szS, szD, World.heap_drewN] at * <;> omega)) _) (hb.mono (by first | omega | (simp only [szA, szS, szD, World.heap_drewN] at * <;> omega))) : Below w.heap.size w w2)
    have Z2 := hb.size
    have N2 : w1.heap.size + 1 ≤ w2.heap.size := (by first | with_reducible exact Z2 | (simp only [szA, szS, szD] at Z2; omega))
    clear Z2
    have Xs_2 : Hid (w2.heap[w1.heap.size]? = some (.cells #[.slice as0 cs.readers.length ps0, .int .i64 cs.writer, .slice as2 cs.q.length ps2] 30 (0, 0))) := below_at hb (heap_at' (n := w1.heap.size) (by first | omega | (simp only [szA, szS, szD, World.heap_drewN] at * <;> omega)))
    have Os_2 := Lib.hid ((Os_1.out.alloc _).kept hb)
    clear hb
    obtain ⟨cs2_0, cs2_1, cs2_2, fs2_0, fs2_1, fs2_2⟩ := box3 Xs_2.out; have ls2 := heap_lt Xs_2.out
    have S2 : w.heap.size ≤ w2.heap.size := (by omega)
    go_wp2_with (fail)
    refine (sFormatLock_calls _ cs _ (Os_2.out.row) HN.out).mono ?_
    rw [HS.out]
    rintro e w3 ⟨rfl, hb⟩
    have B3 := Lib.hid (Below.trans B2.out (hb.mono (by first | omega | (simp only [szA, szS, szD, World.heap_drewN] at * <;> omega))) : Below w.heap.size w w3)
    have Z3 := hb.size
    have N3 : w2.heap.size ≤ w3.heap.size := (by first | with_reducible exact Z3 | (simp only [szA, szS, szD] at Z3; omega))
    clear Z3
    have Xs_3 := Lib.hid (below_at hb Xs_2.out)
    have Os_3 := Lib.hid (Os_2.out.kept hb)
    clear hb
    obtain ⟨cs3_0, cs3_1, cs3_2, fs3_0, fs3_1, fs3_2⟩ := box3 Xs_3.out; have ls3 := heap_lt Xs_3.out
    have S3 : w.heap.size ≤ w3.heap.size := (by omega)
    clear cs2_0 cs2_1 cs2_2 fs2_0 fs2_1 fs2_2
    cases hv : lockB cs
    · have he := fmt_bad hv
      rw [HS.out] at he
      subst he
      have HV := Lib.hid hv; clear hv
      go_wp2_with (fail)
      refine (LockValid_calls _ cs _ (Os_3.out.row) HN.out).mono ?_
      rw [HV.out]
      rintro e w4 ⟨rfl, hb⟩
      have B4 := Lib.hid (Below.trans B3.out (hb.mono (by first | omega | (simp only [szA, szS, szD, World.heap_drewN] at * <;> omega))) : Below w.heap.size w w4)
      have Z4 := hb.size
      have N4 : w3.heap.size ≤ w4.heap.size := (by first | with_reducible exact Z4 | (simp only [szA, szS, szD] at Z4; omega))
      clear Z4
      have Xs_4 := Lib.hid (below_at hb Xs_3.out)
      have Os_4 := Lib.hid (Os_3.out.kept hb)
      clear hb
      obtain ⟨cs4_0, cs4_1, cs4_2, fs4_0, fs4_1, fs4_2⟩ := box3 Xs_4.out; have ls4 := heap_lt Xs_4.out
      have S4 : w.heap.size ≤ w4.heap.size := (by omega)
      clear cs3_0 cs3_1 cs3_2 fs3_0 fs3_1 fs3_2
      go_wp2_with (fail)
      refine (sFormatLock_calls _ cs _ (Os_4.out.row) HN.out).mono ?_
      rw [HS.out]
      rintro e w5 ⟨rfl, hb⟩
      have B5 := Lib.hid (Below.trans B4.out (hb.mono (by first | omega | (simp only [szA, szS, szD, World.heap_drewN] at * <;> omega))) : Below w.heap.size w w5)
      have Z5 := hb.size
      have N5 : w4.heap.size ≤ w5.heap.size := (by first | with_reducible exact Z5 | (simp only [szA, szS, szD] at Z5; omega))
      clear Z5
      have Xs_5 := Lib.hid (below_at hb Xs_4.out)
      have Os_5 := Lib.hid (Os_4.out.kept hb)
      clear hb
      obtain ⟨cs5_0, cs5_1, cs5_2, fs5_0, fs5_1, fs5_2⟩ := box3 Xs_5.out; have ls5 := heap_lt Xs_5.out
      have S5 : w.heap.size ≤ w5.heap.size := (by omega)
      clear cs4_0 cs4_1 cs4_2 fs4_0 fs4_1 fs4_2
      go_wp2_with (fail)
      refine (LockValid_calls _ cs _ (Os_5.out.row) HN.out).mono ?_
      rw [HV.out]
      rintro e w6 ⟨rfl, hb⟩
      have B6 := Lib.hid (Below.trans B5.out (hb.mono (by first | omega | (simp only [szA, szS, szD, World.heap_drewN] at * <;> omega))) : Below w.heap.size w w6)
      have Z6 := hb.size
      have N6 : w5.heap.size ≤ w6.heap.size := (by first | with_reducible exact Z6 | (simp only [szA, szS, szD] at Z6; omega))
      clear Z6
      have Xs_6 := Lib.hid (below_at hb Xs_5.out)
      have Os_6 := Lib.hid (Os_5.out.kept hb)
      clear hb
      obtain ⟨cs6_0, cs6_1, cs6_2, fs6_0, fs6_1, fs6_2⟩ := box3 Xs_6.out; have ls6 := heap_lt Xs_6.out
      have S6 : w.heap.size ≤ w6.heap.size := (by omega)
      clear cs5_0 cs5_1 cs5_2 fs5_0 fs5_1 fs5_2
      go_wp2_with (fail)
      go_ret
      exact ⟨rfl, B6.out⟩
    · obtain ⟨c, r, hcr, hcw⟩ := fmt_good hv
      have hfree := fmt_free hv
      rw [HS.out] at hcr hfree
      have hne : s.toList.isEmpty = false := (by rw [ByteArray.toList_eq, hcr]; rfl)
      have hne2 : ¬ s.toList = [] := (by rw [ByteArray.toList_eq, hcr]; simp)
      have HF := Lib.hid hfree; clear hfree hcw hcr
      have HV := Lib.hid hv; clear hv
      go_wp2_with (fail)
      refine (LockValid_calls _ cs _ (Os_3.out.row) HN.out).mono ?_
      rw [HV.out]
      rintro e w4 ⟨rfl, hb⟩
      have B4 := Lib.hid (Below.trans B3.out (hb.mono (by first | omega | (simp only [szA, szS, szD, World.heap_drewN] at * <;> omega))) : Below w.heap.size w w4)
      have Z4 := hb.size
      have N4 : w3.heap.size ≤ w4.heap.size := (by first | with_reducible exact Z4 | (simp only [szA, szS, szD] at Z4; omega))
      clear Z4
      have Xs_4 := Lib.hid (below_at hb Xs_3.out)
      have Os_4 := Lib.hid (Os_3.out.kept hb)
      clear hb
      obtain ⟨cs4_0, cs4_1, cs4_2, fs4_0, fs4_1, fs4_2⟩ := box3 Xs_4.out; have ls4 := heap_lt Xs_4.out
      have S4 : w.heap.size ≤ w4.heap.size := (by omega)
      clear cs3_0 cs3_1 cs3_2 fs3_0 fs3_1 fs3_2
      by_cases hd : cs = ⟨[], -1, []⟩
      · have HD := Lib.hid hd; clear hd
        have hsf : (s.toList == [102, 114, 101, 101]) = true := by rw [HF.out.2 HD.out, ByteArray.toList_eq]; rfl
        have hsf2 := (beq_iff_eq.1 hsf)
        go_wp2_with (fail)
        obtain ⟨hi_s, HI_s⟩ : ∃ hi, LockOwn w.heap.size hi w4 (.agg #[.slice as0 cs.readers.length ps0, .int .i64 cs.writer, .slice as2 cs.q.length ps2]) cs := ⟨_, Os_4.out⟩
        have hN0 : w4.heap.size ≤ w4.heap.size := (by first | omega | (simp only [szA, szS, szD, World.heap_drewN] at * <;> omega))
        refine wp_region_L [⟨0, false, [], fun _ v _ => v = .string s⟩, ⟨1, false, [0], fun _ v _ => v = .bool true⟩, ⟨2, false, [], fun _ v _ => v = .agg #[.slice as0 cs.readers.length ps0, .int .i64 cs.writer, .slice as2 cs.q.length ps2]⟩, ⟨3, false, [], fun _ v _ => v = .agg #[.slice none 0 0, .int .i64 (-1), .slice none 0 0]⟩, ⟨4, false, [2, 3], fun _ v _ => v = .bool true⟩, ⟨5, false, [0, 1, 2, 3, 4], fun _ v _ => v = .bool true⟩, ⟨6, false, [0, 1, 2, 3, 4, 5], fun _ v _ => v = .bool true⟩, ⟨7, false, [0, 1, 2, 3, 4, 5, 6], fun _ v _ => v = .agg #[.slice none 0 0, .int .i64 (-1), .slice none 0 0]⟩, ⟨8, false, [0, 1, 2, 3, 4, 5, 6, 7], fun _ v _ => v = .bool true⟩, ⟨9, false, [0, 1, 2, 3, 4, 5, 6, 7, 8], fun _ v _ => v = .bool true⟩, ⟨10, false, [0, 1, 2, 3, 4, 5, 6, 7, 8, 9], fun _ v _ => v = .bool true⟩, ⟨11, false, [0, 1, 2, 3, 4, 5, 6, 7, 8, 9, 10], fun _ v _ => v = .agg #[.slice none 0 0, .int .i64 (-1), .slice none 0 0]⟩, ⟨12, false, [0, 1, 2, 3, 4, 5, 6, 7, 8, 9, 10], fun _ v w' => ∃ z0 z1 z2 z3, v = .agg #[.slice z0 0 z1, .int .i64 (-1), .slice z2 0 z3] ∧ LockRow w' (.agg #[.slice z0 0 z1, .int .i64 (-1), .slice z2 0 z3]) ⟨[], -1, []⟩⟩, ⟨13, false, [0, 1, 2, 3, 4, 5, 6, 7, 8, 9, 10, 11, 12], fun _ v _ => v = .bool true⟩, ⟨14, false, [0, 1, 2, 3, 4, 5, 6, 7, 8, 9, 10, 11, 12, 13], fun _ v _ => v = .bool true⟩, ⟨15, false, [0, 1, 2, 3, 4, 5, 6, 7, 8, 9, 10, 11, 12, 13, 14], fun _ v _ => v = .bool true⟩] [(0, some 38), (1, some 39), (2, some 40), (3, some 41), (4, some 42), (5, some 43), (6, some 44), (7, some 45), (8, some 46), (9, some 47), (10, some 48), (11, some 49), (12, some 50), (13, some 51), (14, some 52), (15, some 2)] (fun _ w' => Below w.heap.size w w' ∧ w4.heap.size ≤ w'.heap.size ∧ w'.heap[w1.heap.size]? = some (.cells #[.slice as0 cs.readers.length ps0, .int .i64 cs.writer, .slice as2 cs.q.length ps2] 30 (0, 0)) ∧ LockOwn w.heap.size hi_s w' (.agg #[.slice as0 cs.readers.length ps0, .int .i64 cs.writer, .slice as2 cs.q.length ps2]) cs) (fun _ w1 w2 => Below w1.heap.size w1 w2) (by kernel_rfl) (by rfl) (by kernel_rfl) (by kernel_rfl) ⟨(B4.out).drew, hN0, (heap_drew Xs_4.out), HI_s⟩ (GoalsL.cons ?_ (GoalsL.cons ?_ (GoalsL.cons ?_ (GoalsL.cons ?_ (GoalsL.cons ?_ (GoalsL.cons ?_ (GoalsL.cons ?_ (GoalsL.cons ?_ (GoalsL.cons ?_ (GoalsL.cons ?_ (GoalsL.cons ?_ (GoalsL.cons ?_ (GoalsL.cons ?_ (GoalsL.cons ?_ (GoalsL.cons ?_ (GoalsL.cons ?_ (GoalsL.nil))))))))))))))))) ?_
        · refine GoalL.mk (by rfl) ⟨fun _ _ _ _ _ h => h, fun _ _ _ _ _ _ h => h⟩ ?_
          intro f u wq hf hC hD K hK
          have hA := hC.1; have hN := hC.2.1; have x_s := hC.2.2.1; have o_s := hC.2.2.2; clear hC
          clear hD
          simp only [putL, Act.put, List.setIfInBounds_toArray, List.set_cons_zero, List.set_cons_succ] at hK ⊢
          refine Closed.mk ?_
          go_simp
          exact hK.out _ _ ⟨hA, hN, x_s, o_s⟩ (Below.refl _ _) rfl
        · refine GoalL.mk (by rfl) ⟨fun _ _ _ _ _ h => h, fun _ _ _ _ _ _ h => h⟩ ?_
          intro f u wq hf hC hD K hK
          have hA := hC.1; have hN := hC.2.1; have x_s := hC.2.2.1; have o_s := hC.2.2.2; clear hC
          have d0 := hD.1; clear hD
          have e0 : u 0 = .string s := d0; clear d0
          simp only [putL, Act.put, List.setIfInBounds_toArray, List.set_cons_zero, List.set_cons_succ, e0] at hK ⊢
          refine Closed.mk ?_
          go_simp
          exact hK.out _ _ ⟨hA, hN, x_s, o_s⟩ (Below.refl _ _) rfl
        · refine GoalL.mk (by rfl) ⟨fun _ _ _ _ _ h => h, fun _ _ _ _ _ _ h => h⟩ ?_
          intro f u wq hf hC hD K hK
          have hA := hC.1; have hN := hC.2.1; have x_s := hC.2.2.1; have o_s := hC.2.2.2; clear hC
          clear hD
          simp only [putL, Act.put, List.setIfInBounds_toArray, List.set_cons_zero, List.set_cons_succ] at hK ⊢
          obtain ⟨ks_0, ks_1, ks_2, fs_0, fs_1, fs_2⟩ := box3 x_s
          refine Closed.mk ?_
          go_simp
          exact hK.out _ _ ⟨hA, hN, x_s, o_s⟩ (Below.refl _ _) rfl
        · refine GoalL.mk (by rfl) ⟨fun _ _ _ _ _ h => h, fun _ _ _ _ _ _ h => h⟩ ?_
          intro f u wq hf hC hD K hK
          have hA := hC.1; have hN := hC.2.1; have x_s := hC.2.2.1; have o_s := hC.2.2.2; clear hC
          clear hD
          simp only [putL, Act.put, List.setIfInBounds_toArray, List.set_cons_zero, List.set_cons_succ] at hK ⊢
          refine Closed.mk ?_
          go_simp
          refine (NewLock_calls _).mono ?_
          rintro e wr ⟨rfl, hb⟩
          exact hK.out _ _ ⟨Below.trans hA (hb.mono hA.size), Nat.le_trans hN hb.size, (below_at hb x_s), (o_s.kept hb)⟩ hb rfl
        · refine GoalL.mk (by rfl) ⟨fun _ _ _ _ _ h => h, fun _ _ _ _ _ _ h => h⟩ ?_
          intro f u wq hf hC hD K hK
          have hA := hC.1; have hN := hC.2.1; have x_s := hC.2.2.1; have o_s := hC.2.2.2; clear hC
          have d2 := hD.1; have d3 := hD.2.1; clear hD
          have e2 : u 2 = .agg #[.slice as0 cs.readers.length ps0, .int .i64 cs.writer, .slice as2 cs.q.length ps2] := d2; clear d2
          have e3 : u 3 = .agg #[.slice none 0 0, .int .i64 (-1), .slice none 0 0] := d3; clear d3
          simp only [putL, Act.put, List.setIfInBounds_toArray, List.set_cons_zero, List.set_cons_succ, e2, e3] at hK ⊢
          refine Closed.mk ?_
          go_simp
          refine (LockSameO _ _ cs ⟨[], -1, []⟩ _ (o_s.row) (newRow _)).mono ?_
          rw [decide_eq_true HD.out]
          rintro e wr ⟨rfl, hb⟩
          exact hK.out _ _ ⟨Below.trans hA (hb.mono hA.size), Nat.le_trans hN hb.size, (below_at hb x_s), (o_s.kept hb)⟩ hb rfl
        · refine GoalL.mk (by rfl) ⟨fun _ _ _ _ _ h => h, fun _ _ _ _ _ _ h => h⟩ ?_
          intro f u wq hf hC hD K hK
          have hA := hC.1; have hN := hC.2.1; have x_s := hC.2.2.1; have o_s := hC.2.2.2; clear hC
          have d0 := hD.1; have d1 := hD.2.1; have d2 := hD.2.2.1; have d3 := hD.2.2.2.1; have d4 := hD.2.2.2.2.1; clear hD
          have e0 : u 0 = .string s := d0; clear d0
          have e1 : u 1 = .bool true := d1; clear d1
          have e2 : u 2 = .agg #[.slice as0 cs.readers.length ps0, .int .i64 cs.writer, .slice as2 cs.q.length ps2] := d2; clear d2
          have e3 : u 3 = .agg #[.slice none 0 0, .int .i64 (-1), .slice none 0 0] := d3; clear d3
          have e4 : u 4 = .bool true := d4; clear d4
          simp only [putL, Act.put, List.setIfInBounds_toArray, List.set_cons_zero, List.set_cons_succ, e0, e1, e2, e3, e4] at hK ⊢
          refine Closed.mk ?_
          go_simp
          exact hK.out _ _ ⟨hA, hN, x_s, o_s⟩ (Below.refl _ _) rfl
        · refine GoalL.mk (by rfl) ⟨fun _ _ _ _ _ h => h, fun _ _ _ _ _ _ h => h⟩ ?_
          intro f u wq hf hC hD K hK
          have hA := hC.1; have hN := hC.2.1; have x_s := hC.2.2.1; have o_s := hC.2.2.2; clear hC
          have d0 := hD.1; have d1 := hD.2.1; have d2 := hD.2.2.1; have d3 := hD.2.2.2.1; have d4 := hD.2.2.2.2.1; have d5 := hD.2.2.2.2.2.1; clear hD
          have e0 : u 0 = .string s := d0; clear d0
          have e1 : u 1 = .bool true := d1; clear d1
          have e2 : u 2 = .agg #[.slice as0 cs.readers.length ps0, .int .i64 cs.writer, .slice as2 cs.q.length ps2] := d2; clear d2
          have e3 : u 3 = .agg #[.slice none 0 0, .int .i64 (-1), .slice none 0 0] := d3; clear d3
          have e4 : u 4 = .bool true := d4; clear d4
          have e5 : u 5 = .bool true := d5; clear d5
          simp only [putL, Act.put, List.setIfInBounds_toArray, List.set_cons_zero, List.set_cons_succ, e0, e1, e2, e3, e4, e5] at hK ⊢
          refine Closed.mk ?_
          go_simp
          exact hK.out _ _ ⟨hA, hN, x_s, o_s⟩ (Below.refl _ _) rfl
        · refine GoalL.mk (by rfl) ⟨fun _ _ _ _ _ h => h, fun _ _ _ _ _ _ h => h⟩ ?_
          intro f u wq hf hC hD K hK
          have hA := hC.1; have hN := hC.2.1; have x_s := hC.2.2.1; have o_s := hC.2.2.2; clear hC
          have d0 := hD.1; have d1 := hD.2.1; have d2 := hD.2.2.1; have d3 := hD.2.2.2.1; have d4 := hD.2.2.2.2.1; have d5 := hD.2.2.2.2.2.1; have d6 := hD.2.2.2.2.2.2.1; clear hD
          have e0 : u 0 = .string s := d0; clear d0
          have e1 : u 1 = .bool true := d1; clear d1
          have e2 : u 2 = .agg #[.slice as0 cs.readers.length ps0, .int .i64 cs.writer, .slice as2 cs.q.length ps2] := d2; clear d2
          have e3 : u 3 = .agg #[.slice none 0 0, .int .i64 (-1), .slice none 0 0] := d3; clear d3
          have e4 : u 4 = .bool true := d4; clear d4
          have e5 : u 5 = .bool true := d5; clear d5
          have e6 : u 6 = .bool true := d6; clear d6
          simp only [putL, Act.put, List.setIfInBounds_toArray, List.set_cons_zero, List.set_cons_succ, e0, e1, e2, e3, e4, e5, e6] at hK ⊢
          refine Closed.mk ?_
          go_simp
          refine (NewLock_calls _).mono ?_
          rintro e wr ⟨rfl, hb⟩
          exact hK.out _ _ ⟨Below.trans hA (hb.mono hA.size), Nat.le_trans hN hb.size, (below_at hb x_s), (o_s.kept hb)⟩ hb rfl
        · refine GoalL.mk (by rfl) ⟨fun _ _ _ _ _ h => h, fun _ _ _ _ _ _ h => h⟩ ?_
          intro f u wq hf hC hD K hK
          have hA := hC.1; have hN := hC.2.1; have x_s := hC.2.2.1; have o_s := hC.2.2.2; clear hC
          have d0 := hD.1; have d1 := hD.2.1; have d2 := hD.2.2.1; have d3 := hD.2.2.2.1; have d4 := hD.2.2.2.2.1; have d5 := hD.2.2.2.2.2.1; have d6 := hD.2.2.2.2.2.2.1; have d7 := hD.2.2.2.2.2.2.2.1; clear hD
          have e0 : u 0 = .string s := d0; clear d0
          have e1 : u 1 = .bool true := d1; clear d1
          have e2 : u 2 = .agg #[.slice as0 cs.readers.length ps0, .int .i64 cs.writer, .slice as2 cs.q.length ps2] := d2; clear d2
          have e3 : u 3 = .agg #[.slice none 0 0, .int .i64 (-1), .slice none 0 0] := d3; clear d3
          have e4 : u 4 = .bool true := d4; clear d4
          have e5 : u 5 = .bool true := d5; clear d5
          have e6 : u 6 = .bool true := d6; clear d6
          have e7 : u 7 = .agg #[.slice none 0 0, .int .i64 (-1), .slice none 0 0] := d7; clear d7
          simp only [putL, Act.put, List.setIfInBounds_toArray, List.set_cons_zero, List.set_cons_succ, e0, e1, e2, e3, e4, e5, e6, e7] at hK ⊢
          refine Closed.mk ?_
          go_simp
          refine (LockValid_calls _ ⟨[], -1, []⟩ _ (newRow _) (by decide)).mono ?_
          rw [new_lock]
          rintro e wr ⟨rfl, hb⟩
          exact hK.out _ _ ⟨Below.trans hA (hb.mono hA.size), Nat.le_trans hN hb.size, (below_at hb x_s), (o_s.kept hb)⟩ hb rfl
        · refine GoalL.mk (by rfl) ⟨fun _ _ _ _ _ h => h, fun _ _ _ _ _ _ h => h⟩ ?_
          intro f u wq hf hC hD K hK
          have hA := hC.1; have hN := hC.2.1; have x_s := hC.2.2.1; have o_s := hC.2.2.2; clear hC
          have d0 := hD.1; have d1 := hD.2.1; have d2 := hD.2.2.1; have d3 := hD.2.2.2.1; have d4 := hD.2.2.2.2.1; have d5 := hD.2.2.2.2.2.1; have d6 := hD.2.2.2.2.2.2.1; have d7 := hD.2.2.2.2.2.2.2.1; have d8 := hD.2.2.2.2.2.2.2.2.1; clear hD
          have e0 : u 0 = .string s := d0; clear d0
          have e1 : u 1 = .bool true := d1; clear d1
          have e2 : u 2 = .agg #[.slice as0 cs.readers.length ps0, .int .i64 cs.writer, .slice as2 cs.q.length ps2] := d2; clear d2
          have e3 : u 3 = .agg #[.slice none 0 0, .int .i64 (-1), .slice none 0 0] := d3; clear d3
          have e4 : u 4 = .bool true := d4; clear d4
          have e5 : u 5 = .bool true := d5; clear d5
          have e6 : u 6 = .bool true := d6; clear d6
          have e7 : u 7 = .agg #[.slice none 0 0, .int .i64 (-1), .slice none 0 0] := d7; clear d7
          have e8 : u 8 = .bool true := d8; clear d8
          simp only [putL, Act.put, List.setIfInBounds_toArray, List.set_cons_zero, List.set_cons_succ, e0, e1, e2, e3, e4, e5, e6, e7, e8] at hK ⊢
          refine Closed.mk ?_
          go_simp
          exact hK.out _ _ ⟨hA, hN, x_s, o_s⟩ (Below.refl _ _) rfl
        · refine GoalL.mk (by rfl) ⟨fun _ _ _ _ _ h => h, fun _ _ _ _ _ _ h => h⟩ ?_
          intro f u wq hf hC hD K hK
          have hA := hC.1; have hN := hC.2.1; have x_s := hC.2.2.1; have o_s := hC.2.2.2; clear hC
          have d0 := hD.1; have d1 := hD.2.1; have d2 := hD.2.2.1; have d3 := hD.2.2.2.1; have d4 := hD.2.2.2.2.1; have d5 := hD.2.2.2.2.2.1; have d6 := hD.2.2.2.2.2.2.1; have d7 := hD.2.2.2.2.2.2.2.1; have d8 := hD.2.2.2.2.2.2.2.2.1; have d9 := hD.2.2.2.2.2.2.2.2.2.1; clear hD
          have e0 : u 0 = .string s := d0; clear d0
          have e1 : u 1 = .bool true := d1; clear d1
          have e2 : u 2 = .agg #[.slice as0 cs.readers.length ps0, .int .i64 cs.writer, .slice as2 cs.q.length ps2] := d2; clear d2
          have e3 : u 3 = .agg #[.slice none 0 0, .int .i64 (-1), .slice none 0 0] := d3; clear d3
          have e4 : u 4 = .bool true := d4; clear d4
          have e5 : u 5 = .bool true := d5; clear d5
          have e6 : u 6 = .bool true := d6; clear d6
          have e7 : u 7 = .agg #[.slice none 0 0, .int .i64 (-1), .slice none 0 0] := d7; clear d7
          have e8 : u 8 = .bool true := d8; clear d8
          have e9 : u 9 = .bool true := d9; clear d9
          simp only [putL, Act.put, List.setIfInBounds_toArray, List.set_cons_zero, List.set_cons_succ, e0, e1, e2, e3, e4, e5, e6, e7, e8, e9] at hK ⊢
          refine Closed.mk ?_
          go_simp
          exact hK.out _ _ ⟨hA, hN, x_s, o_s⟩ (Below.refl _ _) rfl
        · refine GoalL.mk (by rfl) ⟨fun _ _ _ _ _ h => h, fun _ _ _ _ _ _ h => h⟩ ?_
          intro f u wq hf hC hD K hK
          have hA := hC.1; have hN := hC.2.1; have x_s := hC.2.2.1; have o_s := hC.2.2.2; clear hC
          have d0 := hD.1; have d1 := hD.2.1; have d2 := hD.2.2.1; have d3 := hD.2.2.2.1; have d4 := hD.2.2.2.2.1; have d5 := hD.2.2.2.2.2.1; have d6 := hD.2.2.2.2.2.2.1; have d7 := hD.2.2.2.2.2.2.2.1; have d8 := hD.2.2.2.2.2.2.2.2.1; have d9 := hD.2.2.2.2.2.2.2.2.2.1; have d10 := hD.2.2.2.2.2.2.2.2.2.2.1; clear hD
          have e0 : u 0 = .string s := d0; clear d0
          have e1 : u 1 = .bool true := d1; clear d1
          have e2 : u 2 = .agg #[.slice as0 cs.readers.length ps0, .int .i64 cs.writer, .slice as2 cs.q.length ps2] := d2; clear d2
          have e3 : u 3 = .agg #[.slice none 0 0, .int .i64 (-1), .slice none 0 0] := d3; clear d3
          have e4 : u 4 = .bool true := d4; clear d4
          have e5 : u 5 = .bool true := d5; clear d5
          have e6 : u 6 = .bool true := d6; clear d6
          have e7 : u 7 = .agg #[.slice none 0 0, .int .i64 (-1), .slice none 0 0] := d7; clear d7
          have e8 : u 8 = .bool true := d8; clear d8
          have e9 : u 9 = .bool true := d9; clear d9
          have e10 : u 10 = .bool true := d10; clear d10
          simp only [putL, Act.put, List.setIfInBounds_toArray, List.set_cons_zero, List.set_cons_succ, e0, e1, e2, e3, e4, e5, e6, e7, e8, e9, e10] at hK ⊢
          refine Closed.mk ?_
          go_simp
          refine (NewLock_calls _).mono ?_
          rintro e wr ⟨rfl, hb⟩
          exact hK.out _ _ ⟨Below.trans hA (hb.mono hA.size), Nat.le_trans hN hb.size, (below_at hb x_s), (o_s.kept hb)⟩ hb rfl
        · refine GoalL.mk (by rfl) ⟨fun _ _ _ _ hR ⟨z0, z1, z2, z3, h1, h2⟩ => ⟨z0, z1, z2, z3, h1, h2.below hR⟩, fun _ _ _ _ _ hR ⟨z0, z1, z2, z3, h1, h2⟩ => ⟨z0, z1, z2, z3, h1, h2.below hR⟩⟩ ?_
          intro f u wq hf hC hD K hK
          have hA := hC.1; have hN := hC.2.1; have x_s := hC.2.2.1; have o_s := hC.2.2.2; clear hC
          have d0 := hD.1; have d1 := hD.2.1; have d2 := hD.2.2.1; have d3 := hD.2.2.2.1; have d4 := hD.2.2.2.2.1; have d5 := hD.2.2.2.2.2.1; have d6 := hD.2.2.2.2.2.2.1; have d7 := hD.2.2.2.2.2.2.2.1; have d8 := hD.2.2.2.2.2.2.2.2.1; have d9 := hD.2.2.2.2.2.2.2.2.2.1; have d10 := hD.2.2.2.2.2.2.2.2.2.2.1; clear hD
          have e0 : u 0 = .string s := d0; clear d0
          have e1 : u 1 = .bool true := d1; clear d1
          have e2 : u 2 = .agg #[.slice as0 cs.readers.length ps0, .int .i64 cs.writer, .slice as2 cs.q.length ps2] := d2; clear d2
          have e3 : u 3 = .agg #[.slice none 0 0, .int .i64 (-1), .slice none 0 0] := d3; clear d3
          have e4 : u 4 = .bool true := d4; clear d4
          have e5 : u 5 = .bool true := d5; clear d5
          have e6 : u 6 = .bool true := d6; clear d6
          have e7 : u 7 = .agg #[.slice none 0 0, .int .i64 (-1), .slice none 0 0] := d7; clear d7
          have e8 : u 8 = .bool true := d8; clear d8
          have e9 : u 9 = .bool true := d9; clear d9
          have e10 : u 10 = .bool true := d10; clear d10
          simp only [putL, Act.put, List.setIfInBounds_toArray, List.set_cons_zero, List.set_cons_succ, e0, e1, e2, e3, e4, e5, e6, e7, e8, e9, e10] at hK ⊢
          refine Closed.mk ?_
          go_simp
          refine (sNewLock_x _).mono ?_
          rintro e wr ⟨z0, z1, z2, z3, rfl, hr, hb⟩
          exact hK.out _ _ ⟨Below.trans hA (hb.mono hA.size), Nat.le_trans hN hb.size, (below_at hb x_s), (o_s.kept hb)⟩ hb ⟨z0, z1, z2, z3, rfl, hr⟩
        · refine GoalL.mk (by rfl) ⟨fun _ _ _ _ _ h => h, fun _ _ _ _ _ _ h => h⟩ ?_
          intro f u wq hf hC hD K hK
          have hA := hC.1; have hN := hC.2.1; have x_s := hC.2.2.1; have o_s := hC.2.2.2; clear hC
          have d0 := hD.1; have d1 := hD.2.1; have d2 := hD.2.2.1; have d3 := hD.2.2.2.1; have d4 := hD.2.2.2.2.1; have d5 := hD.2.2.2.2.2.1; have d6 := hD.2.2.2.2.2.2.1; have d7 := hD.2.2.2.2.2.2.2.1; have d8 := hD.2.2.2.2.2.2.2.2.1; have d9 := hD.2.2.2.2.2.2.2.2.2.1; have d10 := hD.2.2.2.2.2.2.2.2.2.2.1; have d11 := hD.2.2.2.2.2.2.2.2.2.2.2.1; have d12 := hD.2.2.2.2.2.2.2.2.2.2.2.2.1; clear hD
          have e0 : u 0 = .string s := d0; clear d0
          have e1 : u 1 = .bool true := d1; clear d1
          have e2 : u 2 = .agg #[.slice as0 cs.readers.length ps0, .int .i64 cs.writer, .slice as2 cs.q.length ps2] := d2; clear d2
          have e3 : u 3 = .agg #[.slice none 0 0, .int .i64 (-1), .slice none 0 0] := d3; clear d3
          have e4 : u 4 = .bool true := d4; clear d4
          have e5 : u 5 = .bool true := d5; clear d5
          have e6 : u 6 = .bool true := d6; clear d6
          have e7 : u 7 = .agg #[.slice none 0 0, .int .i64 (-1), .slice none 0 0] := d7; clear d7
          have e8 : u 8 = .bool true := d8; clear d8
          have e9 : u 9 = .bool true := d9; clear d9
          have e10 : u 10 = .bool true := d10; clear d10
          have e11 : u 11 = .agg #[.slice none 0 0, .int .i64 (-1), .slice none 0 0] := d11; clear d11
          have q12 : ∃ z0 z1 z2 z3, u 12 = .agg #[.slice z0 0 z1, .int .i64 (-1), .slice z2 0 z3] ∧ LockRow wq (.agg #[.slice z0 0 z1, .int .i64 (-1), .slice z2 0 z3]) ⟨[], -1, []⟩ := d12; clear d12; obtain ⟨z0, z1, z2, z3, e12, r12⟩ := q12
          simp only [putL, Act.put, List.setIfInBounds_toArray, List.set_cons_zero, List.set_cons_succ, e0, e1, e2, e3, e4, e5, e6, e7, e8, e9, e10, e11, e12] at hK ⊢
          refine Closed.mk ?_
          go_simp
          refine (LockSameO _ _ ⟨[], -1, []⟩ ⟨[], -1, []⟩ _ (newRow _) r12).mono ?_
          rw [decide_eq_true rfl]
          rintro e wr ⟨rfl, hb⟩
          exact hK.out _ _ ⟨Below.trans hA (hb.mono hA.size), Nat.le_trans hN hb.size, (below_at hb x_s), (o_s.kept hb)⟩ hb rfl
        · refine GoalL.mk (by rfl) ⟨fun _ _ _ _ _ h => h, fun _ _ _ _ _ _ h => h⟩ ?_
          intro f u wq hf hC hD K hK
          have hA := hC.1; have hN := hC.2.1; have x_s := hC.2.2.1; have o_s := hC.2.2.2; clear hC
          have d0 := hD.1; have d1 := hD.2.1; have d2 := hD.2.2.1; have d3 := hD.2.2.2.1; have d4 := hD.2.2.2.2.1; have d5 := hD.2.2.2.2.2.1; have d6 := hD.2.2.2.2.2.2.1; have d7 := hD.2.2.2.2.2.2.2.1; have d8 := hD.2.2.2.2.2.2.2.2.1; have d9 := hD.2.2.2.2.2.2.2.2.2.1; have d10 := hD.2.2.2.2.2.2.2.2.2.2.1; have d11 := hD.2.2.2.2.2.2.2.2.2.2.2.1; have d12 := hD.2.2.2.2.2.2.2.2.2.2.2.2.1; have d13 := hD.2.2.2.2.2.2.2.2.2.2.2.2.2.1; clear hD
          have e0 : u 0 = .string s := d0; clear d0
          have e1 : u 1 = .bool true := d1; clear d1
          have e2 : u 2 = .agg #[.slice as0 cs.readers.length ps0, .int .i64 cs.writer, .slice as2 cs.q.length ps2] := d2; clear d2
          have e3 : u 3 = .agg #[.slice none 0 0, .int .i64 (-1), .slice none 0 0] := d3; clear d3
          have e4 : u 4 = .bool true := d4; clear d4
          have e5 : u 5 = .bool true := d5; clear d5
          have e6 : u 6 = .bool true := d6; clear d6
          have e7 : u 7 = .agg #[.slice none 0 0, .int .i64 (-1), .slice none 0 0] := d7; clear d7
          have e8 : u 8 = .bool true := d8; clear d8
          have e9 : u 9 = .bool true := d9; clear d9
          have e10 : u 10 = .bool true := d10; clear d10
          have e11 : u 11 = .agg #[.slice none 0 0, .int .i64 (-1), .slice none 0 0] := d11; clear d11
          have q12 : ∃ z0 z1 z2 z3, u 12 = .agg #[.slice z0 0 z1, .int .i64 (-1), .slice z2 0 z3] ∧ LockRow wq (.agg #[.slice z0 0 z1, .int .i64 (-1), .slice z2 0 z3]) ⟨[], -1, []⟩ := d12; clear d12; obtain ⟨z0, z1, z2, z3, e12, r12⟩ := q12
          have e13 : u 13 = .bool true := d13; clear d13
          simp only [putL, Act.put, List.setIfInBounds_toArray, List.set_cons_zero, List.set_cons_succ, e0, e1, e2, e3, e4, e5, e6, e7, e8, e9, e10, e11, e12, e13] at hK ⊢
          refine Closed.mk ?_
          go_simp
          exact hK.out _ _ ⟨hA, hN, x_s, o_s⟩ (Below.refl _ _) rfl
        · refine GoalL.mk (by rfl) ⟨fun _ _ _ _ _ h => h, fun _ _ _ _ _ _ h => h⟩ ?_
          intro f u wq hf hC hD K hK
          have hA := hC.1; have hN := hC.2.1; have x_s := hC.2.2.1; have o_s := hC.2.2.2; clear hC
          have d0 := hD.1; have d1 := hD.2.1; have d2 := hD.2.2.1; have d3 := hD.2.2.2.1; have d4 := hD.2.2.2.2.1; have d5 := hD.2.2.2.2.2.1; have d6 := hD.2.2.2.2.2.2.1; have d7 := hD.2.2.2.2.2.2.2.1; have d8 := hD.2.2.2.2.2.2.2.2.1; have d9 := hD.2.2.2.2.2.2.2.2.2.1; have d10 := hD.2.2.2.2.2.2.2.2.2.2.1; have d11 := hD.2.2.2.2.2.2.2.2.2.2.2.1; have d12 := hD.2.2.2.2.2.2.2.2.2.2.2.2.1; have d13 := hD.2.2.2.2.2.2.2.2.2.2.2.2.2.1; have d14 := hD.2.2.2.2.2.2.2.2.2.2.2.2.2.2.1; clear hD
          have e0 : u 0 = .string s := d0; clear d0
          have e1 : u 1 = .bool true := d1; clear d1
          have e2 : u 2 = .agg #[.slice as0 cs.readers.length ps0, .int .i64 cs.writer, .slice as2 cs.q.length ps2] := d2; clear d2
          have e3 : u 3 = .agg #[.slice none 0 0, .int .i64 (-1), .slice none 0 0] := d3; clear d3
          have e4 : u 4 = .bool true := d4; clear d4
          have e5 : u 5 = .bool true := d5; clear d5
          have e6 : u 6 = .bool true := d6; clear d6
          have e7 : u 7 = .agg #[.slice none 0 0, .int .i64 (-1), .slice none 0 0] := d7; clear d7
          have e8 : u 8 = .bool true := d8; clear d8
          have e9 : u 9 = .bool true := d9; clear d9
          have e10 : u 10 = .bool true := d10; clear d10
          have e11 : u 11 = .agg #[.slice none 0 0, .int .i64 (-1), .slice none 0 0] := d11; clear d11
          have q12 : ∃ z0 z1 z2 z3, u 12 = .agg #[.slice z0 0 z1, .int .i64 (-1), .slice z2 0 z3] ∧ LockRow wq (.agg #[.slice z0 0 z1, .int .i64 (-1), .slice z2 0 z3]) ⟨[], -1, []⟩ := d12; clear d12; obtain ⟨z0, z1, z2, z3, e12, r12⟩ := q12
          have e13 : u 13 = .bool true := d13; clear d13
          have e14 : u 14 = .bool true := d14; clear d14
          simp only [putL, Act.put, List.setIfInBounds_toArray, List.set_cons_zero, List.set_cons_succ, e0, e1, e2, e3, e4, e5, e6, e7, e8, e9, e10, e11, e12, e13, e14] at hK ⊢
          refine Closed.mk ?_
          go_simp
          exact hK.out _ _ ⟨hA, hN, x_s, o_s⟩ (Below.refl _ _) rfl
        intro u w5 hC hD
        have hA := hC.1; have hN := hC.2.1; have x_s := hC.2.2.1; have o_s := hC.2.2.2; clear hC
        have d0 := hD.1; have d1 := hD.2.1; have d2 := hD.2.2.1; have d3 := hD.2.2.2.1; have d4 := hD.2.2.2.2.1; have d5 := hD.2.2.2.2.2.1; have d6 := hD.2.2.2.2.2.2.1; have d7 := hD.2.2.2.2.2.2.2.1; have d8 := hD.2.2.2.2.2.2.2.2.1; have d9 := hD.2.2.2.2.2.2.2.2.2.1; have d10 := hD.2.2.2.2.2.2.2.2.2.2.1; have d11 := hD.2.2.2.2.2.2.2.2.2.2.2.1; have d12 := hD.2.2.2.2.2.2.2.2.2.2.2.2.1; have d13 := hD.2.2.2.2.2.2.2.2.2.2.2.2.2.1; have d14 := hD.2.2.2.2.2.2.2.2.2.2.2.2.2.2.1; have d15 := hD.2.2.2.2.2.2.2.2.2.2.2.2.2.2.2.1; clear hD
        have e0 : u 0 = .string s := d0; clear d0
        have e1 : u 1 = .bool true := d1; clear d1
        have e2 : u 2 = .agg #[.slice as0 cs.readers.length ps0, .int .i64 cs.writer, .slice as2 cs.q.length ps2] := d2; clear d2
        have e3 : u 3 = .agg #[.slice none 0 0, .int .i64 (-1), .slice none 0 0] := d3; clear d3
        have e4 : u 4 = .bool true := d4; clear d4
        have e5 : u 5 = .bool true := d5; clear d5
        have e6 : u 6 = .bool true := d6; clear d6
        have e7 : u 7 = .agg #[.slice none 0 0, .int .i64 (-1), .slice none 0 0] := d7; clear d7
        have e8 : u 8 = .bool true := d8; clear d8
        have e9 : u 9 = .bool true := d9; clear d9
        have e10 : u 10 = .bool true := d10; clear d10
        have e11 : u 11 = .agg #[.slice none 0 0, .int .i64 (-1), .slice none 0 0] := d11; clear d11
        have q12 : ∃ z0 z1 z2 z3, u 12 = .agg #[.slice z0 0 z1, .int .i64 (-1), .slice z2 0 z3] ∧ LockRow w5 (.agg #[.slice z0 0 z1, .int .i64 (-1), .slice z2 0 z3]) ⟨[], -1, []⟩ := d12; clear d12; obtain ⟨z0, z1, z2, z3, e12, r12⟩ := q12
        have e13 : u 13 = .bool true := d13; clear d13
        have e14 : u 14 = .bool true := d14; clear d14
        have e15 : u 15 = .bool true := d15; clear d15
        have B5 := Lib.hid hA; have N5 := hN; have S5 := hA.size
        have Xs_5 := Lib.hid x_s; clear x_s
        have Os_5 := Lib.hid o_s; clear o_s
        obtain ⟨cs5_0, cs5_1, cs5_2, fs5_0, fs5_1, fs5_2⟩ := box3 Xs_5.out; have ls5 := heap_lt Xs_5.out
        clear hA hN
        simp only [putL, Act.put, List.setIfInBounds_toArray, List.set_cons_zero, List.set_cons_succ, e0, e1, e2, e3, e4, e5, e6, e7, e8, e9, e10, e11, e12, e13, e14, e15]
        refine Closed.mk (wpAnyH_done (by kernel_rfl) ?_ _)
        go_wp2_with (fail)
        go_ret
        exact ⟨rfl, B5.out⟩
      · have HD := Lib.hid hd; clear hd
        have hsf : (s.toList == [102, 114, 101, 101]) = false := beq_eq_false_iff_ne.2 fun e => HD.out (HF.out.1 (ByteArray.ext (by rw [ByteArray.toList_eq] at e; exact Array.toList_inj.1 e)))
        have hsf2 := (beq_eq_false_iff_ne.1 hsf)
        go_wp2_with (fail)
        obtain ⟨hi_s, HI_s⟩ : ∃ hi, LockOwn w.heap.size hi w4 (.agg #[.slice as0 cs.readers.length ps0, .int .i64 cs.writer, .slice as2 cs.q.length ps2]) cs := ⟨_, Os_4.out⟩
        have hN0 : w4.heap.size ≤ w4.heap.size := (by first | omega | (simp only [szA, szS, szD, World.heap_drewN] at * <;> omega))
        refine wp_region_L [⟨0, false, [], fun _ v _ => v = .string s⟩, ⟨1, false, [0], fun _ v _ => v = .bool false⟩, ⟨2, false, [], fun _ v _ => v = .agg #[.slice as0 cs.readers.length ps0, .int .i64 cs.writer, .slice as2 cs.q.length ps2]⟩, ⟨3, false, [], fun _ v _ => v = .agg #[.slice none 0 0, .int .i64 (-1), .slice none 0 0]⟩, ⟨4, false, [2, 3], fun _ v _ => v = .bool false⟩, ⟨5, false, [0, 1, 2, 3, 4], fun _ v _ => v = .bool true⟩, ⟨6, false, [0, 1, 2, 3, 4, 5], fun _ v _ => v = .bool true⟩, ⟨7, false, [0, 1, 2, 3, 4, 5, 6], fun _ v _ => v = .agg #[.slice none 0 0, .int .i64 (-1), .slice none 0 0]⟩, ⟨8, false, [0, 1, 2, 3, 4, 5, 6, 7], fun _ v _ => v = .bool true⟩, ⟨9, false, [0, 1, 2, 3, 4, 5, 6, 7, 8], fun _ v _ => v = .bool true⟩, ⟨10, false, [0, 1, 2, 3, 4, 5, 6, 7, 8, 9], fun _ v _ => v = .bool true⟩, ⟨11, false, [0, 1, 2, 3, 4, 5, 6, 7, 8, 9, 10], fun _ v _ => v = .agg #[.slice none 0 0, .int .i64 (-1), .slice none 0 0]⟩, ⟨12, false, [0, 1, 2, 3, 4, 5, 6, 7, 8, 9, 10], fun _ v w' => ∃ z0 z1 z2 z3, v = .agg #[.slice z0 0 z1, .int .i64 (-1), .slice z2 0 z3] ∧ LockRow w' (.agg #[.slice z0 0 z1, .int .i64 (-1), .slice z2 0 z3]) ⟨[], -1, []⟩⟩, ⟨13, false, [0, 1, 2, 3, 4, 5, 6, 7, 8, 9, 10, 11, 12], fun _ v _ => v = .bool true⟩, ⟨14, false, [0, 1, 2, 3, 4, 5, 6, 7, 8, 9, 10, 11, 12, 13], fun _ v _ => v = .bool true⟩, ⟨15, false, [0, 1, 2, 3, 4, 5, 6, 7, 8, 9, 10, 11, 12, 13, 14], fun _ v _ => v = .bool true⟩] [(0, some 38), (1, some 39), (2, some 40), (3, some 41), (4, some 42), (5, some 43), (6, some 44), (7, some 45), (8, some 46), (9, some 47), (10, some 48), (11, some 49), (12, some 50), (13, some 51), (14, some 52), (15, some 2)] (fun _ w' => Below w.heap.size w w' ∧ w4.heap.size ≤ w'.heap.size ∧ w'.heap[w1.heap.size]? = some (.cells #[.slice as0 cs.readers.length ps0, .int .i64 cs.writer, .slice as2 cs.q.length ps2] 30 (0, 0)) ∧ LockOwn w.heap.size hi_s w' (.agg #[.slice as0 cs.readers.length ps0, .int .i64 cs.writer, .slice as2 cs.q.length ps2]) cs) (fun _ w1 w2 => Below w1.heap.size w1 w2) (by kernel_rfl) (by rfl) (by kernel_rfl) (by kernel_rfl) ⟨(B4.out).drew, hN0, (heap_drew Xs_4.out), HI_s⟩ (GoalsL.cons ?_ (GoalsL.cons ?_ (GoalsL.cons ?_ (GoalsL.cons ?_ (GoalsL.cons ?_ (GoalsL.cons ?_ (GoalsL.cons ?_ (GoalsL.cons ?_ (GoalsL.cons ?_ (GoalsL.cons ?_ (GoalsL.cons ?_ (GoalsL.cons ?_ (GoalsL.cons ?_ (GoalsL.cons ?_ (GoalsL.cons ?_ (GoalsL.cons ?_ (GoalsL.nil))))))))))))))))) ?_
        · refine GoalL.mk (by rfl) ⟨fun _ _ _ _ _ h => h, fun _ _ _ _ _ _ h => h⟩ ?_
          intro f u wq hf hC hD K hK
          have hA := hC.1; have hN := hC.2.1; have x_s := hC.2.2.1; have o_s := hC.2.2.2; clear hC
          clear hD
          simp only [putL, Act.put, List.setIfInBounds_toArray, List.set_cons_zero, List.set_cons_succ] at hK ⊢
          refine Closed.mk ?_
          go_simp
          exact hK.out _ _ ⟨hA, hN, x_s, o_s⟩ (Below.refl _ _) rfl
        · refine GoalL.mk (by rfl) ⟨fun _ _ _ _ _ h => h, fun _ _ _ _ _ _ h => h⟩ ?_
          intro f u wq hf hC hD K hK
          have hA := hC.1; have hN := hC.2.1; have x_s := hC.2.2.1; have o_s := hC.2.2.2; clear hC
          have d0 := hD.1; clear hD
          have e0 : u 0 = .string s := d0; clear d0
          simp only [putL, Act.put, List.setIfInBounds_toArray, List.set_cons_zero, List.set_cons_succ, e0] at hK ⊢
          refine Closed.mk ?_
          go_simp
          exact hK.out _ _ ⟨hA, hN, x_s, o_s⟩ (Below.refl _ _) rfl
        · refine GoalL.mk (by rfl) ⟨fun _ _ _ _ _ h => h, fun _ _ _ _ _ _ h => h⟩ ?_
          intro f u wq hf hC hD K hK
          have hA := hC.1; have hN := hC.2.1; have x_s := hC.2.2.1; have o_s := hC.2.2.2; clear hC
          clear hD
          simp only [putL, Act.put, List.setIfInBounds_toArray, List.set_cons_zero, List.set_cons_succ] at hK ⊢
          obtain ⟨ks_0, ks_1, ks_2, fs_0, fs_1, fs_2⟩ := box3 x_s
          refine Closed.mk ?_
          go_simp
          exact hK.out _ _ ⟨hA, hN, x_s, o_s⟩ (Below.refl _ _) rfl
        · refine GoalL.mk (by rfl) ⟨fun _ _ _ _ _ h => h, fun _ _ _ _ _ _ h => h⟩ ?_
          intro f u wq hf hC hD K hK
          have hA := hC.1; have hN := hC.2.1; have x_s := hC.2.2.1; have o_s := hC.2.2.2; clear hC
          clear hD
          simp only [putL, Act.put, List.setIfInBounds_toArray, List.set_cons_zero, List.set_cons_succ] at hK ⊢
          refine Closed.mk ?_
          go_simp
          refine (NewLock_calls _).mono ?_
          rintro e wr ⟨rfl, hb⟩
          exact hK.out _ _ ⟨Below.trans hA (hb.mono hA.size), Nat.le_trans hN hb.size, (below_at hb x_s), (o_s.kept hb)⟩ hb rfl
        · refine GoalL.mk (by rfl) ⟨fun _ _ _ _ _ h => h, fun _ _ _ _ _ _ h => h⟩ ?_
          intro f u wq hf hC hD K hK
          have hA := hC.1; have hN := hC.2.1; have x_s := hC.2.2.1; have o_s := hC.2.2.2; clear hC
          have d2 := hD.1; have d3 := hD.2.1; clear hD
          have e2 : u 2 = .agg #[.slice as0 cs.readers.length ps0, .int .i64 cs.writer, .slice as2 cs.q.length ps2] := d2; clear d2
          have e3 : u 3 = .agg #[.slice none 0 0, .int .i64 (-1), .slice none 0 0] := d3; clear d3
          simp only [putL, Act.put, List.setIfInBounds_toArray, List.set_cons_zero, List.set_cons_succ, e2, e3] at hK ⊢
          refine Closed.mk ?_
          go_simp
          refine (LockSameO _ _ cs ⟨[], -1, []⟩ _ (o_s.row) (newRow _)).mono ?_
          rw [decide_eq_false HD.out]
          rintro e wr ⟨rfl, hb⟩
          exact hK.out _ _ ⟨Below.trans hA (hb.mono hA.size), Nat.le_trans hN hb.size, (below_at hb x_s), (o_s.kept hb)⟩ hb rfl
        · refine GoalL.mk (by rfl) ⟨fun _ _ _ _ _ h => h, fun _ _ _ _ _ _ h => h⟩ ?_
          intro f u wq hf hC hD K hK
          have hA := hC.1; have hN := hC.2.1; have x_s := hC.2.2.1; have o_s := hC.2.2.2; clear hC
          have d0 := hD.1; have d1 := hD.2.1; have d2 := hD.2.2.1; have d3 := hD.2.2.2.1; have d4 := hD.2.2.2.2.1; clear hD
          have e0 : u 0 = .string s := d0; clear d0
          have e1 : u 1 = .bool false := d1; clear d1
          have e2 : u 2 = .agg #[.slice as0 cs.readers.length ps0, .int .i64 cs.writer, .slice as2 cs.q.length ps2] := d2; clear d2
          have e3 : u 3 = .agg #[.slice none 0 0, .int .i64 (-1), .slice none 0 0] := d3; clear d3
          have e4 : u 4 = .bool false := d4; clear d4
          simp only [putL, Act.put, List.setIfInBounds_toArray, List.set_cons_zero, List.set_cons_succ, e0, e1, e2, e3, e4] at hK ⊢
          refine Closed.mk ?_
          go_simp
          exact hK.out _ _ ⟨hA, hN, x_s, o_s⟩ (Below.refl _ _) rfl
        · refine GoalL.mk (by rfl) ⟨fun _ _ _ _ _ h => h, fun _ _ _ _ _ _ h => h⟩ ?_
          intro f u wq hf hC hD K hK
          have hA := hC.1; have hN := hC.2.1; have x_s := hC.2.2.1; have o_s := hC.2.2.2; clear hC
          have d0 := hD.1; have d1 := hD.2.1; have d2 := hD.2.2.1; have d3 := hD.2.2.2.1; have d4 := hD.2.2.2.2.1; have d5 := hD.2.2.2.2.2.1; clear hD
          have e0 : u 0 = .string s := d0; clear d0
          have e1 : u 1 = .bool false := d1; clear d1
          have e2 : u 2 = .agg #[.slice as0 cs.readers.length ps0, .int .i64 cs.writer, .slice as2 cs.q.length ps2] := d2; clear d2
          have e3 : u 3 = .agg #[.slice none 0 0, .int .i64 (-1), .slice none 0 0] := d3; clear d3
          have e4 : u 4 = .bool false := d4; clear d4
          have e5 : u 5 = .bool true := d5; clear d5
          simp only [putL, Act.put, List.setIfInBounds_toArray, List.set_cons_zero, List.set_cons_succ, e0, e1, e2, e3, e4, e5] at hK ⊢
          refine Closed.mk ?_
          go_simp
          exact hK.out _ _ ⟨hA, hN, x_s, o_s⟩ (Below.refl _ _) rfl
        · refine GoalL.mk (by rfl) ⟨fun _ _ _ _ _ h => h, fun _ _ _ _ _ _ h => h⟩ ?_
          intro f u wq hf hC hD K hK
          have hA := hC.1; have hN := hC.2.1; have x_s := hC.2.2.1; have o_s := hC.2.2.2; clear hC
          have d0 := hD.1; have d1 := hD.2.1; have d2 := hD.2.2.1; have d3 := hD.2.2.2.1; have d4 := hD.2.2.2.2.1; have d5 := hD.2.2.2.2.2.1; have d6 := hD.2.2.2.2.2.2.1; clear hD
          have e0 : u 0 = .string s := d0; clear d0
          have e1 : u 1 = .bool false := d1; clear d1
          have e2 : u 2 = .agg #[.slice as0 cs.readers.length ps0, .int .i64 cs.writer, .slice as2 cs.q.length ps2] := d2; clear d2
          have e3 : u 3 = .agg #[.slice none 0 0, .int .i64 (-1), .slice none 0 0] := d3; clear d3
          have e4 : u 4 = .bool false := d4; clear d4
          have e5 : u 5 = .bool true := d5; clear d5
          have e6 : u 6 = .bool true := d6; clear d6
          simp only [putL, Act.put, List.setIfInBounds_toArray, List.set_cons_zero, List.set_cons_succ, e0, e1, e2, e3, e4, e5, e6] at hK ⊢
          refine Closed.mk ?_
          go_simp
          refine (NewLock_calls _).mono ?_
          rintro e wr ⟨rfl, hb⟩
          exact hK.out _ _ ⟨Below.trans hA (hb.mono hA.size), Nat.le_trans hN hb.size, (below_at hb x_s), (o_s.kept hb)⟩ hb rfl
        · refine GoalL.mk (by rfl) ⟨fun _ _ _ _ _ h => h, fun _ _ _ _ _ _ h => h⟩ ?_
          intro f u wq hf hC hD K hK
          have hA := hC.1; have hN := hC.2.1; have x_s := hC.2.2.1; have o_s := hC.2.2.2; clear hC
          have d0 := hD.1; have d1 := hD.2.1; have d2 := hD.2.2.1; have d3 := hD.2.2.2.1; have d4 := hD.2.2.2.2.1; have d5 := hD.2.2.2.2.2.1; have d6 := hD.2.2.2.2.2.2.1; have d7 := hD.2.2.2.2.2.2.2.1; clear hD
          have e0 : u 0 = .string s := d0; clear d0
          have e1 : u 1 = .bool false := d1; clear d1
          have e2 : u 2 = .agg #[.slice as0 cs.readers.length ps0, .int .i64 cs.writer, .slice as2 cs.q.length ps2] := d2; clear d2
          have e3 : u 3 = .agg #[.slice none 0 0, .int .i64 (-1), .slice none 0 0] := d3; clear d3
          have e4 : u 4 = .bool false := d4; clear d4
          have e5 : u 5 = .bool true := d5; clear d5
          have e6 : u 6 = .bool true := d6; clear d6
          have e7 : u 7 = .agg #[.slice none 0 0, .int .i64 (-1), .slice none 0 0] := d7; clear d7
          simp only [putL, Act.put, List.setIfInBounds_toArray, List.set_cons_zero, List.set_cons_succ, e0, e1, e2, e3, e4, e5, e6, e7] at hK ⊢
          refine Closed.mk ?_
          go_simp
          refine (LockValid_calls _ ⟨[], -1, []⟩ _ (newRow _) (by decide)).mono ?_
          rw [new_lock]
          rintro e wr ⟨rfl, hb⟩
          exact hK.out _ _ ⟨Below.trans hA (hb.mono hA.size), Nat.le_trans hN hb.size, (below_at hb x_s), (o_s.kept hb)⟩ hb rfl
        · refine GoalL.mk (by rfl) ⟨fun _ _ _ _ _ h => h, fun _ _ _ _ _ _ h => h⟩ ?_
          intro f u wq hf hC hD K hK
          have hA := hC.1; have hN := hC.2.1; have x_s := hC.2.2.1; have o_s := hC.2.2.2; clear hC
          have d0 := hD.1; have d1 := hD.2.1; have d2 := hD.2.2.1; have d3 := hD.2.2.2.1; have d4 := hD.2.2.2.2.1; have d5 := hD.2.2.2.2.2.1; have d6 := hD.2.2.2.2.2.2.1; have d7 := hD.2.2.2.2.2.2.2.1; have d8 := hD.2.2.2.2.2.2.2.2.1; clear hD
          have e0 : u 0 = .string s := d0; clear d0
          have e1 : u 1 = .bool false := d1; clear d1
          have e2 : u 2 = .agg #[.slice as0 cs.readers.length ps0, .int .i64 cs.writer, .slice as2 cs.q.length ps2] := d2; clear d2
          have e3 : u 3 = .agg #[.slice none 0 0, .int .i64 (-1), .slice none 0 0] := d3; clear d3
          have e4 : u 4 = .bool false := d4; clear d4
          have e5 : u 5 = .bool true := d5; clear d5
          have e6 : u 6 = .bool true := d6; clear d6
          have e7 : u 7 = .agg #[.slice none 0 0, .int .i64 (-1), .slice none 0 0] := d7; clear d7
          have e8 : u 8 = .bool true := d8; clear d8
          simp only [putL, Act.put, List.setIfInBounds_toArray, List.set_cons_zero, List.set_cons_succ, e0, e1, e2, e3, e4, e5, e6, e7, e8] at hK ⊢
          refine Closed.mk ?_
          go_simp
          exact hK.out _ _ ⟨hA, hN, x_s, o_s⟩ (Below.refl _ _) rfl
        · refine GoalL.mk (by rfl) ⟨fun _ _ _ _ _ h => h, fun _ _ _ _ _ _ h => h⟩ ?_
          intro f u wq hf hC hD K hK
          have hA := hC.1; have hN := hC.2.1; have x_s := hC.2.2.1; have o_s := hC.2.2.2; clear hC
          have d0 := hD.1; have d1 := hD.2.1; have d2 := hD.2.2.1; have d3 := hD.2.2.2.1; have d4 := hD.2.2.2.2.1; have d5 := hD.2.2.2.2.2.1; have d6 := hD.2.2.2.2.2.2.1; have d7 := hD.2.2.2.2.2.2.2.1; have d8 := hD.2.2.2.2.2.2.2.2.1; have d9 := hD.2.2.2.2.2.2.2.2.2.1; clear hD
          have e0 : u 0 = .string s := d0; clear d0
          have e1 : u 1 = .bool false := d1; clear d1
          have e2 : u 2 = .agg #[.slice as0 cs.readers.length ps0, .int .i64 cs.writer, .slice as2 cs.q.length ps2] := d2; clear d2
          have e3 : u 3 = .agg #[.slice none 0 0, .int .i64 (-1), .slice none 0 0] := d3; clear d3
          have e4 : u 4 = .bool false := d4; clear d4
          have e5 : u 5 = .bool true := d5; clear d5
          have e6 : u 6 = .bool true := d6; clear d6
          have e7 : u 7 = .agg #[.slice none 0 0, .int .i64 (-1), .slice none 0 0] := d7; clear d7
          have e8 : u 8 = .bool true := d8; clear d8
          have e9 : u 9 = .bool true := d9; clear d9
          simp only [putL, Act.put, List.setIfInBounds_toArray, List.set_cons_zero, List.set_cons_succ, e0, e1, e2, e3, e4, e5, e6, e7, e8, e9] at hK ⊢
          refine Closed.mk ?_
          go_simp
          exact hK.out _ _ ⟨hA, hN, x_s, o_s⟩ (Below.refl _ _) rfl
        · refine GoalL.mk (by rfl) ⟨fun _ _ _ _ _ h => h, fun _ _ _ _ _ _ h => h⟩ ?_
          intro f u wq hf hC hD K hK
          have hA := hC.1; have hN := hC.2.1; have x_s := hC.2.2.1; have o_s := hC.2.2.2; clear hC
          have d0 := hD.1; have d1 := hD.2.1; have d2 := hD.2.2.1; have d3 := hD.2.2.2.1; have d4 := hD.2.2.2.2.1; have d5 := hD.2.2.2.2.2.1; have d6 := hD.2.2.2.2.2.2.1; have d7 := hD.2.2.2.2.2.2.2.1; have d8 := hD.2.2.2.2.2.2.2.2.1; have d9 := hD.2.2.2.2.2.2.2.2.2.1; have d10 := hD.2.2.2.2.2.2.2.2.2.2.1; clear hD
          have e0 : u 0 = .string s := d0; clear d0
          have e1 : u 1 = .bool false := d1; clear d1
          have e2 : u 2 = .agg #[.slice as0 cs.readers.length ps0, .int .i64 cs.writer, .slice as2 cs.q.length ps2] := d2; clear d2
          have e3 : u 3 = .agg #[.slice none 0 0, .int .i64 (-1), .slice none 0 0] := d3; clear d3
          have e4 : u 4 = .bool false := d4; clear d4
          have e5 : u 5 = .bool true := d5; clear d5
          have e6 : u 6 = .bool true := d6; clear d6
          have e7 : u 7 = .agg #[.slice none 0 0, .int .i64 (-1), .slice none 0 0] := d7; clear d7
          have e8 : u 8 = .bool true := d8; clear d8
          have e9 : u 9 = .bool true := d9; clear d9
          have e10 : u 10 = .bool true := d10; clear d10
          simp only [putL, Act.put, List.setIfInBounds_toArray, List.set_cons_zero, List.set_cons_succ, e0, e1, e2, e3, e4, e5, e6, e7, e8, e9, e10] at hK ⊢
          refine Closed.mk ?_
          go_simp
          refine (NewLock_calls _).mono ?_
          rintro e wr ⟨rfl, hb⟩
          exact hK.out _ _ ⟨Below.trans hA (hb.mono hA.size), Nat.le_trans hN hb.size, (below_at hb x_s), (o_s.kept hb)⟩ hb rfl
        · refine GoalL.mk (by rfl) ⟨fun _ _ _ _ hR ⟨z0, z1, z2, z3, h1, h2⟩ => ⟨z0, z1, z2, z3, h1, h2.below hR⟩, fun _ _ _ _ _ hR ⟨z0, z1, z2, z3, h1, h2⟩ => ⟨z0, z1, z2, z3, h1, h2.below hR⟩⟩ ?_
          intro f u wq hf hC hD K hK
          have hA := hC.1; have hN := hC.2.1; have x_s := hC.2.2.1; have o_s := hC.2.2.2; clear hC
          have d0 := hD.1; have d1 := hD.2.1; have d2 := hD.2.2.1; have d3 := hD.2.2.2.1; have d4 := hD.2.2.2.2.1; have d5 := hD.2.2.2.2.2.1; have d6 := hD.2.2.2.2.2.2.1; have d7 := hD.2.2.2.2.2.2.2.1; have d8 := hD.2.2.2.2.2.2.2.2.1; have d9 := hD.2.2.2.2.2.2.2.2.2.1; have d10 := hD.2.2.2.2.2.2.2.2.2.2.1; clear hD
          have e0 : u 0 = .string s := d0; clear d0
          have e1 : u 1 = .bool false := d1; clear d1
          have e2 : u 2 = .agg #[.slice as0 cs.readers.length ps0, .int .i64 cs.writer, .slice as2 cs.q.length ps2] := d2; clear d2
          have e3 : u 3 = .agg #[.slice none 0 0, .int .i64 (-1), .slice none 0 0] := d3; clear d3
          have e4 : u 4 = .bool false := d4; clear d4
          have e5 : u 5 = .bool true := d5; clear d5
          have e6 : u 6 = .bool true := d6; clear d6
          have e7 : u 7 = .agg #[.slice none 0 0, .int .i64 (-1), .slice none 0 0] := d7; clear d7
          have e8 : u 8 = .bool true := d8; clear d8
          have e9 : u 9 = .bool true := d9; clear d9
          have e10 : u 10 = .bool true := d10; clear d10
          simp only [putL, Act.put, List.setIfInBounds_toArray, List.set_cons_zero, List.set_cons_succ, e0, e1, e2, e3, e4, e5, e6, e7, e8, e9, e10] at hK ⊢
          refine Closed.mk ?_
          go_simp
          refine (sNewLock_x _).mono ?_
          rintro e wr ⟨z0, z1, z2, z3, rfl, hr, hb⟩
          exact hK.out _ _ ⟨Below.trans hA (hb.mono hA.size), Nat.le_trans hN hb.size, (below_at hb x_s), (o_s.kept hb)⟩ hb ⟨z0, z1, z2, z3, rfl, hr⟩
        · refine GoalL.mk (by rfl) ⟨fun _ _ _ _ _ h => h, fun _ _ _ _ _ _ h => h⟩ ?_
          intro f u wq hf hC hD K hK
          have hA := hC.1; have hN := hC.2.1; have x_s := hC.2.2.1; have o_s := hC.2.2.2; clear hC
          have d0 := hD.1; have d1 := hD.2.1; have d2 := hD.2.2.1; have d3 := hD.2.2.2.1; have d4 := hD.2.2.2.2.1; have d5 := hD.2.2.2.2.2.1; have d6 := hD.2.2.2.2.2.2.1; have d7 := hD.2.2.2.2.2.2.2.1; have d8 := hD.2.2.2.2.2.2.2.2.1; have d9 := hD.2.2.2.2.2.2.2.2.2.1; have d10 := hD.2.2.2.2.2.2.2.2.2.2.1; have d11 := hD.2.2.2.2.2.2.2.2.2.2.2.1; have d12 := hD.2.2.2.2.2.2.2.2.2.2.2.2.1; clear hD
          have e0 : u 0 = .string s := d0; clear d0
          have e1 : u 1 = .bool false := d1; clear d1
          have e2 : u 2 = .agg #[.slice as0 cs.readers.length ps0, .int .i64 cs.writer, .slice as2 cs.q.length ps2] := d2; clear d2
          have e3 : u 3 = .agg #[.slice none 0 0, .int .i64 (-1), .slice none 0 0] := d3; clear d3
          have e4 : u 4 = .bool false := d4; clear d4
          have e5 : u 5 = .bool true := d5; clear d5
          have e6 : u 6 = .bool true := d6; clear d6
          have e7 : u 7 = .agg #[.slice none 0 0, .int .i64 (-1), .slice none 0 0] := d7; clear d7
          have e8 : u 8 = .bool true := d8; clear d8
          have e9 : u 9 = .bool true := d9; clear d9
          have e10 : u 10 = .bool true := d10; clear d10
          have e11 : u 11 = .agg #[.slice none 0 0, .int .i64 (-1), .slice none 0 0] := d11; clear d11
          have q12 : ∃ z0 z1 z2 z3, u 12 = .agg #[.slice z0 0 z1, .int .i64 (-1), .slice z2 0 z3] ∧ LockRow wq (.agg #[.slice z0 0 z1, .int .i64 (-1), .slice z2 0 z3]) ⟨[], -1, []⟩ := d12; clear d12; obtain ⟨z0, z1, z2, z3, e12, r12⟩ := q12
          simp only [putL, Act.put, List.setIfInBounds_toArray, List.set_cons_zero, List.set_cons_succ, e0, e1, e2, e3, e4, e5, e6, e7, e8, e9, e10, e11, e12] at hK ⊢
          refine Closed.mk ?_
          go_simp
          refine (LockSameO _ _ ⟨[], -1, []⟩ ⟨[], -1, []⟩ _ (newRow _) r12).mono ?_
          rw [decide_eq_true rfl]
          rintro e wr ⟨rfl, hb⟩
          exact hK.out _ _ ⟨Below.trans hA (hb.mono hA.size), Nat.le_trans hN hb.size, (below_at hb x_s), (o_s.kept hb)⟩ hb rfl
        · refine GoalL.mk (by rfl) ⟨fun _ _ _ _ _ h => h, fun _ _ _ _ _ _ h => h⟩ ?_
          intro f u wq hf hC hD K hK
          have hA := hC.1; have hN := hC.2.1; have x_s := hC.2.2.1; have o_s := hC.2.2.2; clear hC
          have d0 := hD.1; have d1 := hD.2.1; have d2 := hD.2.2.1; have d3 := hD.2.2.2.1; have d4 := hD.2.2.2.2.1; have d5 := hD.2.2.2.2.2.1; have d6 := hD.2.2.2.2.2.2.1; have d7 := hD.2.2.2.2.2.2.2.1; have d8 := hD.2.2.2.2.2.2.2.2.1; have d9 := hD.2.2.2.2.2.2.2.2.2.1; have d10 := hD.2.2.2.2.2.2.2.2.2.2.1; have d11 := hD.2.2.2.2.2.2.2.2.2.2.2.1; have d12 := hD.2.2.2.2.2.2.2.2.2.2.2.2.1; have d13 := hD.2.2.2.2.2.2.2.2.2.2.2.2.2.1; clear hD
          have e0 : u 0 = .string s := d0; clear d0
          have e1 : u 1 = .bool false := d1; clear d1
          have e2 : u 2 = .agg #[.slice as0 cs.readers.length ps0, .int .i64 cs.writer, .slice as2 cs.q.length ps2] := d2; clear d2
          have e3 : u 3 = .agg #[.slice none 0 0, .int .i64 (-1), .slice none 0 0] := d3; clear d3
          have e4 : u 4 = .bool false := d4; clear d4
          have e5 : u 5 = .bool true := d5; clear d5
          have e6 : u 6 = .bool true := d6; clear d6
          have e7 : u 7 = .agg #[.slice none 0 0, .int .i64 (-1), .slice none 0 0] := d7; clear d7
          have e8 : u 8 = .bool true := d8; clear d8
          have e9 : u 9 = .bool true := d9; clear d9
          have e10 : u 10 = .bool true := d10; clear d10
          have e11 : u 11 = .agg #[.slice none 0 0, .int .i64 (-1), .slice none 0 0] := d11; clear d11
          have q12 : ∃ z0 z1 z2 z3, u 12 = .agg #[.slice z0 0 z1, .int .i64 (-1), .slice z2 0 z3] ∧ LockRow wq (.agg #[.slice z0 0 z1, .int .i64 (-1), .slice z2 0 z3]) ⟨[], -1, []⟩ := d12; clear d12; obtain ⟨z0, z1, z2, z3, e12, r12⟩ := q12
          have e13 : u 13 = .bool true := d13; clear d13
          simp only [putL, Act.put, List.setIfInBounds_toArray, List.set_cons_zero, List.set_cons_succ, e0, e1, e2, e3, e4, e5, e6, e7, e8, e9, e10, e11, e12, e13] at hK ⊢
          refine Closed.mk ?_
          go_simp
          exact hK.out _ _ ⟨hA, hN, x_s, o_s⟩ (Below.refl _ _) rfl
        · refine GoalL.mk (by rfl) ⟨fun _ _ _ _ _ h => h, fun _ _ _ _ _ _ h => h⟩ ?_
          intro f u wq hf hC hD K hK
          have hA := hC.1; have hN := hC.2.1; have x_s := hC.2.2.1; have o_s := hC.2.2.2; clear hC
          have d0 := hD.1; have d1 := hD.2.1; have d2 := hD.2.2.1; have d3 := hD.2.2.2.1; have d4 := hD.2.2.2.2.1; have d5 := hD.2.2.2.2.2.1; have d6 := hD.2.2.2.2.2.2.1; have d7 := hD.2.2.2.2.2.2.2.1; have d8 := hD.2.2.2.2.2.2.2.2.1; have d9 := hD.2.2.2.2.2.2.2.2.2.1; have d10 := hD.2.2.2.2.2.2.2.2.2.2.1; have d11 := hD.2.2.2.2.2.2.2.2.2.2.2.1; have d12 := hD.2.2.2.2.2.2.2.2.2.2.2.2.1; have d13 := hD.2.2.2.2.2.2.2.2.2.2.2.2.2.1; have d14 := hD.2.2.2.2.2.2.2.2.2.2.2.2.2.2.1; clear hD
          have e0 : u 0 = .string s := d0; clear d0
          have e1 : u 1 = .bool false := d1; clear d1
          have e2 : u 2 = .agg #[.slice as0 cs.readers.length ps0, .int .i64 cs.writer, .slice as2 cs.q.length ps2] := d2; clear d2
          have e3 : u 3 = .agg #[.slice none 0 0, .int .i64 (-1), .slice none 0 0] := d3; clear d3
          have e4 : u 4 = .bool false := d4; clear d4
          have e5 : u 5 = .bool true := d5; clear d5
          have e6 : u 6 = .bool true := d6; clear d6
          have e7 : u 7 = .agg #[.slice none 0 0, .int .i64 (-1), .slice none 0 0] := d7; clear d7
          have e8 : u 8 = .bool true := d8; clear d8
          have e9 : u 9 = .bool true := d9; clear d9
          have e10 : u 10 = .bool true := d10; clear d10
          have e11 : u 11 = .agg #[.slice none 0 0, .int .i64 (-1), .slice none 0 0] := d11; clear d11
          have q12 : ∃ z0 z1 z2 z3, u 12 = .agg #[.slice z0 0 z1, .int .i64 (-1), .slice z2 0 z3] ∧ LockRow wq (.agg #[.slice z0 0 z1, .int .i64 (-1), .slice z2 0 z3]) ⟨[], -1, []⟩ := d12; clear d12; obtain ⟨z0, z1, z2, z3, e12, r12⟩ := q12
          have e13 : u 13 = .bool true := d13; clear d13
          have e14 : u 14 = .bool true := d14; clear d14
          simp only [putL, Act.put, List.setIfInBounds_toArray, List.set_cons_zero, List.set_cons_succ, e0, e1, e2, e3, e4, e5, e6, e7, e8, e9, e10, e11, e12, e13, e14] at hK ⊢
          refine Closed.mk ?_
          go_simp
          exact hK.out _ _ ⟨hA, hN, x_s, o_s⟩ (Below.refl _ _) rfl
        intro u w5 hC hD
        have hA := hC.1; have hN := hC.2.1; have x_s := hC.2.2.1; have o_s := hC.2.2.2; clear hC
        have d0 := hD.1; have d1 := hD.2.1; have d2 := hD.2.2.1; have d3 := hD.2.2.2.1; have d4 := hD.2.2.2.2.1; have d5 := hD.2.2.2.2.2.1; have d6 := hD.2.2.2.2.2.2.1; have d7 := hD.2.2.2.2.2.2.2.1; have d8 := hD.2.2.2.2.2.2.2.2.1; have d9 := hD.2.2.2.2.2.2.2.2.2.1; have d10 := hD.2.2.2.2.2.2.2.2.2.2.1; have d11 := hD.2.2.2.2.2.2.2.2.2.2.2.1; have d12 := hD.2.2.2.2.2.2.2.2.2.2.2.2.1; have d13 := hD.2.2.2.2.2.2.2.2.2.2.2.2.2.1; have d14 := hD.2.2.2.2.2.2.2.2.2.2.2.2.2.2.1; have d15 := hD.2.2.2.2.2.2.2.2.2.2.2.2.2.2.2.1; clear hD
        have e0 : u 0 = .string s := d0; clear d0
        have e1 : u 1 = .bool false := d1; clear d1
        have e2 : u 2 = .agg #[.slice as0 cs.readers.length ps0, .int .i64 cs.writer, .slice as2 cs.q.length ps2] := d2; clear d2
        have e3 : u 3 = .agg #[.slice none 0 0, .int .i64 (-1), .slice none 0 0] := d3; clear d3
        have e4 : u 4 = .bool false := d4; clear d4
        have e5 : u 5 = .bool true := d5; clear d5
        have e6 : u 6 = .bool true := d6; clear d6
        have e7 : u 7 = .agg #[.slice none 0 0, .int .i64 (-1), .slice none 0 0] := d7; clear d7
        have e8 : u 8 = .bool true := d8; clear d8
        have e9 : u 9 = .bool true := d9; clear d9
        have e10 : u 10 = .bool true := d10; clear d10
        have e11 : u 11 = .agg #[.slice none 0 0, .int .i64 (-1), .slice none 0 0] := d11; clear d11
        have q12 : ∃ z0 z1 z2 z3, u 12 = .agg #[.slice z0 0 z1, .int .i64 (-1), .slice z2 0 z3] ∧ LockRow w5 (.agg #[.slice z0 0 z1, .int .i64 (-1), .slice z2 0 z3]) ⟨[], -1, []⟩ := d12; clear d12; obtain ⟨z0, z1, z2, z3, e12, r12⟩ := q12
        have e13 : u 13 = .bool true := d13; clear d13
        have e14 : u 14 = .bool true := d14; clear d14
        have e15 : u 15 = .bool true := d15; clear d15
        have B5 := Lib.hid hA; have N5 := hN; have S5 := hA.size
        have Xs_5 := Lib.hid x_s; clear x_s
        have Os_5 := Lib.hid o_s; clear o_s
        obtain ⟨cs5_0, cs5_1, cs5_2, fs5_0, fs5_1, fs5_2⟩ := box3 Xs_5.out; have ls5 := heap_lt Xs_5.out
        clear hA hN
        simp only [putL, Act.put, List.setIfInBounds_toArray, List.set_cons_zero, List.set_cons_succ, e0, e1, e2, e3, e4, e5, e6, e7, e8, e9, e10, e11, e12, e13, e14, e15]
        refine Closed.mk (wpAnyH_done (by kernel_rfl) ?_ _)
        go_wp2_with (fail)
        go_ret
        exact ⟨rfl, B5.out⟩

  · go_enter Tryd.func6, Tryd.ntmps6
    go_wp2
    go_ret
    exact ⟨rfl, Below.refl _ _⟩
end Go.Proofs.YtbnfhnfnbhigoaaDoor
