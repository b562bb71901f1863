/- What is drawn for the laws on channels (made by gen_chandraws.py). -/
import Derived.Test.YtpgiinklbnlloaaDrawChan1
import Derived.Test.YtpgiinklbnlloaaDWChan
import Derived.Test.YtpgiinklbnlloaaDrawsOut
namespace Go.Proofs.Ytpgiinklbnlloaa
open Go.RowKit
set_option linter.unusedSimpArgs false
set_option linter.unusedVariables false
set_option maxHeartbeats 1600000 in
theorem l5Case_calls (v : Value) (bs : List Int) (w : World) (h : Row 1 encB w v bs) (hbs : ∀ x ∈ bs, 0 ≤ x ∧ x ≤ 255) :
    Calls Try.prog 68 #[v] w fun e w' => ∃ v' c' y0, e = .returned (.tuple #[v', .int .i64 y0]) ∧ ChanOwn w.heap.size w'.heap.size w' v' c' ∧ ChanFew 11 c' ∧ (0 ≤ y0 ∧ y0 ≤ 6) ∧ Below w.heap.size w w' := by
  have H0 := Lib.hid h; have HBS := Lib.hid hbs; clear h hbs
  go_enter Try.func68, Try.ntmps68
  go_wp2_with (fail)
  refine (l13Open_calls v bs _ (Row.below H0.out (Below.alloc (Below.refl _ _) (by first | omega | (simp only [szA, szS, szD, World.heap_drewN] at * <;> omega)) _)) HBS.out).mono ?_
  rintro e w1 ⟨rfl, hr, hb⟩
  have B1 := Lib.hid (Below.trans (Below.alloc (Below.refl _ _) (by first | omega | (simp only [szA, szS, szD, World.heap_drewN] at * <;> omega)) _) (hb.mono (by first | omega | (simp only [szA, szS, szD, World.heap_drewN] at * <;> omega))) : Below w.heap.size w w1)
  have Z1 := hb.size
  have N1 : w.heap.size + 1 ≤ w1.heap.size := (by first | with_reducible exact Z1 | (simp only [szA, szS, szD] at Z1; omega))
  clear Z1
  have Xres_1 : Hid (w1.heap[w.heap.size]? = some (.cells #[.int .i64 0, .slice none 0 0, .slice none 0 0, .slice none 0 0, .bool false] 25 (0, 0))) := below_at hb (heap_at' (n := w.heap.size) (by first | omega | (simp only [szA, szS, szD, World.heap_drewN] at * <;> omega)))
  clear hb
  obtain ⟨cres1_0, cres1_1, cres1_2, cres1_3, cres1_4, fres1_0, fres1_1, fres1_2, fres1_3, fres1_4⟩ := box5 Xres_1.out; have lres1 := heap_lt Xres_1.out
  have S1 : w.heap.size ≤ w1.heap.size := (by omega)
  simp only [szA] at hr
  have A1 := Lib.hid (Dr.start hr); have hlt := hr.lt; clear hr
  have S1 : w1.heap.size ≤ w1.heap.size := Nat.le_refl _
  have SB : w.heap.size ≤ w1.heap.size := by omega
  go_wp2_with (fail)
  refine (l5Draw_calls (w.heap.size + 1) 0 w1 _ A1.out (by omega)).mono ?_
  rintro e w2 ⟨vd, cd, rfl, ho_d, hfd, hd⟩
  have A2 := Lib.hid (Dr.then A1.out hd)
  have Z2 := hd.size
  have N2 : w1.heap.size ≤ w2.heap.size := (by first | with_reducible exact Z2 | (simp only [szA, szS, szD] at Z2; omega))
  clear Z2
  have Xres_2 := Lib.hid (hd.at_ Xres_1.out (by first | omega | (simp only [szA, szS, szD, World.heap_drewN] at * <;> omega)))
  have Od_2 := Lib.hid (ho_d.mono (lo' := w1.heap.size) (by first | omega | (simp only [szA, szS, szD, World.heap_drewN] at * <;> omega)) (Nat.le_refl _)); obtain ⟨ad1, pd1, ad2, pd2, ad3, pd3, rfl, hx_d⟩ := ho_d; clear hx_d
  clear hd
  obtain ⟨cres2_0, cres2_1, cres2_2, cres2_3, cres2_4, fres2_0, fres2_1, fres2_2, fres2_3, fres2_4⟩ := box5 Xres_2.out; have lres2 := heap_lt Xres_2.out
  have S2 : w1.heap.size ≤ w2.heap.size := (by omega)
  clear cres1_0 cres1_1 cres1_2 cres1_3 cres1_4 fres1_0 fres1_1 fres1_2 fres1_3 fres1_4
  go_wp2_with (fail)
  refine (l5Wrong_calls (w.heap.size + 1) (0 + 100) 10 _ cd w1 _ A2.out (by omega) (Od_2.out.row) hfd (by omega)).mono ?_
  rintro e w3 ⟨vg, cg, rfl, ho_g, hfg, hd⟩
  have A3 := Lib.hid (Dr.then A2.out hd)
  have Z3 := hd.size
  have N3 : w2.heap.size ≤ w3.heap.size := (by first | with_reducible exact Z3 | (simp only [szA, szS, szD] at Z3; omega))
  clear Z3
  have Xres_3 := Lib.hid (hd.at_ Xres_2.out (by first | omega | (simp only [szA, szS, szD, World.heap_drewN] at * <;> omega)))
  have Od_3 := Lib.hid (Od_2.out.past hd.g hlt)
  have Og_3 := Lib.hid (ho_g.mono (lo' := w1.heap.size) (by first | omega | (simp only [szA, szS, szD, World.heap_drewN] at * <;> omega)) (Nat.le_refl _)); obtain ⟨ag1, pg1, ag2, pg2, ag3, pg3, rfl, hx_g⟩ := ho_g; clear hx_g
  clear hd
  obtain ⟨cres3_0, cres3_1, cres3_2, cres3_3, cres3_4, fres3_0, fres3_1, fres3_2, fres3_3, fres3_4⟩ := box5 Xres_3.out; have lres3 := heap_lt Xres_3.out
  have S3 : w1.heap.size ≤ w3.heap.size := (by omega)
  clear cres2_0 cres2_1 cres2_2 cres2_3 cres2_4 fres2_0 fres2_1 fres2_2 fres2_3 fres2_4
  go_wp2_with (fail)
  refine (numD (w.heap.size + 1) (0 + 103) _ [0, 1, 2, 3, 4, 5, 6] w1 _ (A3.out.alloc _) (by omega) (lit_row _ (by decide) rfl rfl (by first | omega | (simp only [szA, szS, szD, World.heap_drewN] at * <;> omega))) (by decide) (by simp [Value.ownBlock]; omega)).mono ?_
  rintro e w4 ⟨y0, rfl, hy0, hd⟩
  have A4 := Lib.hid (Dr.then (A3.out.alloc _) hd)
  have Z4 := hd.size
  have N4 : w3.heap.size + 1 ≤ w4.heap.size := (by first | with_reducible exact Z4 | (simp only [szA, szS, szD] at Z4; omega))
  clear Z4
  have Xres_4 := Lib.hid (hd.at_ (heap_up Xres_3.out) (by first | omega | (simp only [szA, szS, szD, World.heap_drewN] at * <;> omega)))
  have Og_4 := Lib.hid ((Og_3.out.alloc _).past hd.g hlt)
  clear hd
  obtain ⟨cres4_0, cres4_1, cres4_2, cres4_3, cres4_4, fres4_0, fres4_1, fres4_2, fres4_3, fres4_4⟩ := box5 Xres_4.out; have lres4 := heap_lt Xres_4.out
  have S4 : w1.heap.size ≤ w4.heap.size := (by omega)
  clear cres3_0 cres3_1 cres3_2 cres3_3 cres3_4 fres3_0 fres3_1 fres3_2 fres3_3 fres3_4
  have hy0b : 0 ≤ y0 ∧ y0 ≤ 6 := by simp at hy0; omega
  obtain ⟨hy00, hy01⟩ := hy0b; clear hy0
  go_wp2_with (fail)
  refine bodyPost_ret (v := .tuple #[.agg #[.int .i64 cg.room, .slice ag1 cg.items.length pg1, .slice ag2 cg.senders.length pg2, .slice ag3 cg.getters.length pg3, .bool cg.closed], .int .i64 y0]) (by simp [results, Try.results68, go_sem, cres4_0, cres4_1, cres4_2, cres4_3, cres4_4, lres4]) rfl ⟨_, cg, y0, rfl, (((((Og_4.out.setB (w.heap.size) 0 Xres_4.out (by decide) (.int .i64 cg.room)).setB (w.heap.size) 1 (set_at (a := ⟨w.heap.size, 0, none⟩) Xres_4.out rfl rfl (.int .i64 cg.room)) (by decide) (.slice ag1 cg.items.length pg1)).setB (w.heap.size) 2 (set_at (a := ⟨w.heap.size, 1, none⟩) (set_at (a := ⟨w.heap.size, 0, none⟩) Xres_4.out rfl rfl (.int .i64 cg.room)) rfl rfl (.slice ag1 cg.items.length pg1)) (by decide) (.slice ag2 cg.senders.length pg2)).setB (w.heap.size) 3 (set_at (a := ⟨w.heap.size, 2, none⟩) (set_at (a := ⟨w.heap.size, 1, none⟩) (set_at (a := ⟨w.heap.size, 0, none⟩) Xres_4.out rfl rfl (.int .i64 cg.room)) rfl rfl (.slice ag1 cg.items.length pg1)) rfl rfl (.slice ag2 cg.senders.length pg2)) (by decide) (.slice ag3 cg.getters.length pg3)).setB (w.heap.size) 4 (set_at (a := ⟨w.heap.size, 3, none⟩) (set_at (a := ⟨w.heap.size, 2, none⟩) (set_at (a := ⟨w.heap.size, 1, none⟩) (set_at (a := ⟨w.heap.size, 0, none⟩) Xres_4.out rfl rfl (.int .i64 cg.room)) rfl rfl (.slice ag1 cg.items.length pg1)) rfl rfl (.slice ag2 cg.senders.length pg2)) rfl rfl (.slice ag3 cg.getters.length pg3)) (by decide) (.bool cg.closed)).mono (by first | omega | (simp only [szA, szS, szD, World.heap_drewN] at * <;> omega)) (by first | omega | (simp only [szA, szS, szD, World.heap_drewN] at * <;> omega)), hfg, ⟨hy00, hy01⟩, (below_setAt (below_setAt (below_setAt (below_setAt (below_setAt (Dr.out B1.out A4.out (by omega)) (w.heap.size) 0 (by first | omega | (simp only [szA, szS, szD, World.heap_drewN] at * <;> omega)) (.int .i64 cg.room)) (w.heap.size) 1 (by first | omega | (simp only [szA, szS, szD, World.heap_drewN] at * <;> omega)) (.slice ag1 cg.items.length pg1)) (w.heap.size) 2 (by first | omega | (simp only [szA, szS, szD, World.heap_drewN] at * <;> omega)) (.slice ag2 cg.senders.length pg2)) (w.heap.size) 3 (by first | omega | (simp only [szA, szS, szD, World.heap_drewN] at * <;> omega)) (.slice ag3 cg.getters.length pg3)) (w.heap.size) 4 (by first | omega | (simp only [szA, szS, szD, World.heap_drewN] at * <;> omega)) (.bool cg.closed))⟩
set_option maxHeartbeats 1600000 in
theorem DrawChanValid_calls (v : Value) (bs : List Int) (w : World) (h : Row 1 encB w v bs) (hbs : ∀ x ∈ bs, 0 ≤ x ∧ x ≤ 255) :
    Calls Try.prog 27 #[v] w fun e w' => ∃ v' c', e = .returned v' ∧ ChanOwn w.heap.size w'.heap.size w' v' c' ∧ ChanFew 12 c' ∧ Below w.heap.size w w' := by
  have H0 := Lib.hid h; have HBS := Lib.hid hbs; clear h hbs
  go_enter Try.func27, Try.ntmps27
  go_wp2_with (fail)
  refine (l13Open_calls v bs _ (Row.below H0.out (Below.alloc (Below.refl _ _) (by first | omega | (simp only [szA, szS, szD, World.heap_drewN] at * <;> omega)) _)) HBS.out).mono ?_
  rintro e w1 ⟨rfl, hr, hb⟩
  have B1 := Lib.hid (Below.trans (Below.alloc (Below.refl _ _) (by first | omega | (simp only [szA, szS, szD, World.heap_drewN] at * <;> omega)) _) (hb.mono (by first | omega | (simp only [szA, szS, szD, World.heap_drewN] at * <;> omega))) : Below w.heap.size w w1)
  have Z1 := hb.size
  have N1 : w.heap.size + 1 ≤ w1.heap.size := (by first | with_reducible exact Z1 | (simp only [szA, szS, szD] at Z1; omega))
  clear Z1
  have Xres_1 : Hid (w1.heap[w.heap.size]? = some (.cells #[.int .i64 0, .slice none 0 0, .slice none 0 0, .slice none 0 0, .bool false] 25 (0, 0))) := below_at hb (heap_at' (n := w.heap.size) (by first | omega | (simp only [szA, szS, szD, World.heap_drewN] at * <;> omega)))
  clear hb
  obtain ⟨cres1_0, cres1_1, cres1_2, cres1_3, cres1_4, fres1_0, fres1_1, fres1_2, fres1_3, fres1_4⟩ := box5 Xres_1.out; have lres1 := heap_lt Xres_1.out
  have S1 : w.heap.size ≤ w1.heap.size := (by omega)
  simp only [szA] at hr
  have A1 := Lib.hid (Dr.start hr); have hlt := hr.lt; clear hr
  have S1 : w1.heap.size ≤ w1.heap.size := Nat.le_refl _
  have SB : w.heap.size ≤ w1.heap.size := by omega
  go_wp2_with (fail)
  refine (l5Draw_calls (w.heap.size + 1) 0 w1 _ A1.out (by omega)).mono ?_
  rintro e w2 ⟨vd, cd, rfl, ho_d, hfd, hd⟩
  have A2 := Lib.hid (Dr.then A1.out hd)
  have Z2 := hd.size
  have N2 : w1.heap.size ≤ w2.heap.size := (by first | with_reducible exact Z2 | (simp only [szA, szS, szD] at Z2; omega))
  clear Z2
  have Xres_2 := Lib.hid (hd.at_ Xres_1.out (by first | omega | (simp only [szA, szS, szD, World.heap_drewN] at * <;> omega)))
  have Od_2 := Lib.hid (ho_d.mono (lo' := w1.heap.size) (by first | omega | (simp only [szA, szS, szD, World.heap_drewN] at * <;> omega)) (Nat.le_refl _)); obtain ⟨ad1, pd1, ad2, pd2, ad3, pd3, rfl, hx_d⟩ := ho_d; clear hx_d
  clear hd
  obtain ⟨cres2_0, cres2_1, cres2_2, cres2_3, cres2_4, fres2_0, fres2_1, fres2_2, fres2_3, fres2_4⟩ := box5 Xres_2.out; have lres2 := heap_lt Xres_2.out
  have S2 : w1.heap.size ≤ w2.heap.size := (by omega)
  clear cres1_0 cres1_1 cres1_2 cres1_3 cres1_4 fres1_0 fres1_1 fres1_2 fres1_3 fres1_4
  go_wp2_with (fail)
  refine (l5Wrong_calls (w.heap.size + 1) (0 + 100) 10 _ cd w1 _ A2.out (by omega) (Od_2.out.row) hfd (by omega)).mono ?_
  rintro e w3 ⟨vga, cg0, rfl, ho_ga, hfga, hd⟩
  have A3 := Lib.hid (Dr.then A2.out hd)
  have Z3 := hd.size
  have N3 : w2.heap.size ≤ w3.heap.size := (by first | with_reducible exact Z3 | (simp only [szA, szS, szD] at Z3; omega))
  clear Z3
  have Xres_3 := Lib.hid (hd.at_ Xres_2.out (by first | omega | (simp only [szA, szS, szD, World.heap_drewN] at * <;> omega)))
  have Od_3 := Lib.hid (Od_2.out.past hd.g hlt)
  have Oga_3 := Lib.hid (ho_ga.mono (lo' := w1.heap.size) (by first | omega | (simp only [szA, szS, szD, World.heap_drewN] at * <;> omega)) (Nat.le_refl _)); obtain ⟨aga1, pga1, aga2, pga2, aga3, pga3, rfl, hx_ga⟩ := ho_ga; clear hx_ga
  clear hd
  obtain ⟨cres3_0, cres3_1, cres3_2, cres3_3, cres3_4, fres3_0, fres3_1, fres3_2, fres3_3, fres3_4⟩ := box5 Xres_3.out; have lres3 := heap_lt Xres_3.out
  have S3 : w1.heap.size ≤ w3.heap.size := (by omega)
  clear cres2_0 cres2_1 cres2_2 cres2_3 cres2_4 fres2_0 fres2_1 fres2_2 fres2_3 fres2_4
  go_wp2_with (fail)
  refine (l5Wrong_calls (w.heap.size + 1) (0 + 103) 11 _ cg0 w1 _ A3.out (by omega) (Oga_3.out.row) hfga (by omega)).mono ?_
  rintro e w4 ⟨vgb, cg1, rfl, ho_gb, hfgb, hd⟩
  have A4 := Lib.hid (Dr.then A3.out hd)
  have Z4 := hd.size
  have N4 : w3.heap.size ≤ w4.heap.size := (by first | with_reducible exact Z4 | (simp only [szA, szS, szD] at Z4; omega))
  clear Z4
  have Xres_4 := Lib.hid (hd.at_ Xres_3.out (by first | omega | (simp only [szA, szS, szD, World.heap_drewN] at * <;> omega)))
  have Oga_4 := Lib.hid (Oga_3.out.past hd.g hlt)
  have Ogb_4 := Lib.hid (ho_gb.mono (lo' := w1.heap.size) (by first | omega | (simp only [szA, szS, szD, World.heap_drewN] at * <;> omega)) (Nat.le_refl _)); obtain ⟨agb1, pgb1, agb2, pgb2, agb3, pgb3, rfl, hx_gb⟩ := ho_gb; clear hx_gb
  clear hd
  obtain ⟨cres4_0, cres4_1, cres4_2, cres4_3, cres4_4, fres4_0, fres4_1, fres4_2, fres4_3, fres4_4⟩ := box5 Xres_4.out; have lres4 := heap_lt Xres_4.out
  have S4 : w1.heap.size ≤ w4.heap.size := (by omega)
  clear cres3_0 cres3_1 cres3_2 cres3_3 cres3_4 fres3_0 fres3_1 fres3_2 fres3_3 fres3_4
  go_wp2_with (fail)
  refine bodyPost_ret (v := .agg #[.int .i64 cg1.room, .slice agb1 cg1.items.length pgb1, .slice agb2 cg1.senders.length pgb2, .slice agb3 cg1.getters.length pgb3, .bool cg1.closed]) (by simp [results, Try.results27, go_sem, cres4_0, cres4_1, cres4_2, cres4_3, cres4_4, lres4]) rfl ⟨_, cg1, rfl, (((((Ogb_4.out.setB (w.heap.size) 0 Xres_4.out (by decide) (.int .i64 cg1.room)).setB (w.heap.size) 1 (set_at (a := ⟨w.heap.size, 0, none⟩) Xres_4.out rfl rfl (.int .i64 cg1.room)) (by decide) (.slice agb1 cg1.items.length pgb1)).setB (w.heap.size) 2 (set_at (a := ⟨w.heap.size, 1, none⟩) (set_at (a := ⟨w.heap.size, 0, none⟩) Xres_4.out rfl rfl (.int .i64 cg1.room)) rfl rfl (.slice agb1 cg1.items.length pgb1)) (by decide) (.slice agb2 cg1.senders.length pgb2)).setB (w.heap.size) 3 (set_at (a := ⟨w.heap.size, 2, none⟩) (set_at (a := ⟨w.heap.size, 1, none⟩) (set_at (a := ⟨w.heap.size, 0, none⟩) Xres_4.out rfl rfl (.int .i64 cg1.room)) rfl rfl (.slice agb1 cg1.items.length pgb1)) rfl rfl (.slice agb2 cg1.senders.length pgb2)) (by decide) (.slice agb3 cg1.getters.length pgb3)).setB (w.heap.size) 4 (set_at (a := ⟨w.heap.size, 3, none⟩) (set_at (a := ⟨w.heap.size, 2, none⟩) (set_at (a := ⟨w.heap.size, 1, none⟩) (set_at (a := ⟨w.heap.size, 0, none⟩) Xres_4.out rfl rfl (.int .i64 cg1.room)) rfl rfl (.slice agb1 cg1.items.length pgb1)) rfl rfl (.slice agb2 cg1.senders.length pgb2)) rfl rfl (.slice agb3 cg1.getters.length pgb3)) (by decide) (.bool cg1.closed)).mono (by first | omega | (simp only [szA, szS, szD, World.heap_drewN] at * <;> omega)) (by first | omega | (simp only [szA, szS, szD, World.heap_drewN] at * <;> omega)), hfgb, (below_setAt (below_setAt (below_setAt (below_setAt (below_setAt (Dr.out B1.out A4.out (by omega)) (w.heap.size) 0 (by first | omega | (simp only [szA, szS, szD, World.heap_drewN] at * <;> omega)) (.int .i64 cg1.room)) (w.heap.size) 1 (by first | omega | (simp only [szA, szS, szD, World.heap_drewN] at * <;> omega)) (.slice agb1 cg1.items.length pgb1)) (w.heap.size) 2 (by first | omega | (simp only [szA, szS, szD, World.heap_drewN] at * <;> omega)) (.slice agb2 cg1.senders.length pgb2)) (w.heap.size) 3 (by first | omega | (simp only [szA, szS, szD, World.heap_drewN] at * <;> omega)) (.slice agb3 cg1.getters.length pgb3)) (w.heap.size) 4 (by first | omega | (simp only [szA, szS, szD, World.heap_drewN] at * <;> omega)) (.bool cg1.closed))⟩
set_option maxHeartbeats 1600000 in
theorem DrawGetChan_calls (v : Value) (bs : List Int) (w : World) (h : Row 1 encB w v bs) (hbs : ∀ x ∈ bs, 0 ≤ x ∧ x ≤ 255) :
    Calls Try.prog 37 #[v] w fun e w' => ∃ v' c' y0, e = .returned (.tuple #[v', .int .i64 y0]) ∧ ChanOwn w.heap.size w'.heap.size w' v' c' ∧ ChanFew 11 c' ∧ (0 ≤ y0 ∧ y0 ≤ 6) ∧ Below w.heap.size w w' := by
  have H0 := Lib.hid h; have HBS := Lib.hid hbs; clear h hbs
  go_enter Try.func37, Try.ntmps37
  go_wp2_with (fail)
  refine (l5Case_calls v bs _ (Row.below H0.out (Below.alloc (Below.refl _ _) (by first | omega | (simp only [szA, szS, szD, World.heap_drewN] at * <;> omega)) _)) HBS.out).mono ?_
  rintro e w1 ⟨vg, cg, y0, rfl, ho_g, hfg, hy0, hb⟩
  have B1 := Lib.hid (Below.trans (Below.alloc (Below.refl _ _) (by first | omega | (simp only [szA, szS, szD, World.heap_drewN] at * <;> omega)) _) (hb.mono (by first | omega | (simp only [szA, szS, szD, World.heap_drewN] at * <;> omega))) : Below w.heap.size w w1)
  have Z1 := hb.size
  have N1 : w.heap.size + 1 ≤ w1.heap.size := (by first | with_reducible exact Z1 | (simp only [szA, szS, szD] at Z1; omega))
  clear Z1
  have Xres_1 : Hid (w1.heap[w.heap.size]? = some (.cells #[.int .i64 0, .slice none 0 0, .slice none 0 0, .slice none 0 0, .bool false] 25 (0, 0))) := below_at hb (heap_at' (n := w.heap.size) (by first | omega | (simp only [szA, szS, szD, World.heap_drewN] at * <;> omega)))
  have Og_1 := Lib.hid (ho_g.mono (lo' := w.heap.size) (by first | omega | (simp only [szA, szS, szD, World.heap_drewN] at * <;> omega)) (Nat.le_refl _)); obtain ⟨ag1, pg1, ag2, pg2, ag3, pg3, rfl, hx_g⟩ := ho_g; clear hx_g
  clear hb
  obtain ⟨cres1_0, cres1_1, cres1_2, cres1_3, cres1_4, fres1_0, fres1_1, fres1_2, fres1_3, fres1_4⟩ := box5 Xres_1.out; have lres1 := heap_lt Xres_1.out
  have S1 : w.heap.size ≤ w1.heap.size := (by omega)
  go_wp2_with (fail)
  refine bodyPost_ret (v := .tuple #[.agg #[.int .i64 cg.room, .slice ag1 cg.items.length pg1, .slice ag2 cg.senders.length pg2, .slice ag3 cg.getters.length pg3, .bool cg.closed], .int .i64 y0]) (by simp [results, Try.results37, go_sem, cres1_0, cres1_1, cres1_2, cres1_3, cres1_4, lres1]) rfl ⟨_, cg, y0, rfl, (((((Og_1.out.setB (w.heap.size) 0 Xres_1.out (by decide) (.int .i64 cg.room)).setB (w.heap.size) 1 (set_at (a := ⟨w.heap.size, 0, none⟩) Xres_1.out rfl rfl (.int .i64 cg.room)) (by decide) (.slice ag1 cg.items.length pg1)).setB (w.heap.size) 2 (set_at (a := ⟨w.heap.size, 1, none⟩) (set_at (a := ⟨w.heap.size, 0, none⟩) Xres_1.out rfl rfl (.int .i64 cg.room)) rfl rfl (.slice ag1 cg.items.length pg1)) (by decide) (.slice ag2 cg.senders.length pg2)).setB (w.heap.size) 3 (set_at (a := ⟨w.heap.size, 2, none⟩) (set_at (a := ⟨w.heap.size, 1, none⟩) (set_at (a := ⟨w.heap.size, 0, none⟩) Xres_1.out rfl rfl (.int .i64 cg.room)) rfl rfl (.slice ag1 cg.items.length pg1)) rfl rfl (.slice ag2 cg.senders.length pg2)) (by decide) (.slice ag3 cg.getters.length pg3)).setB (w.heap.size) 4 (set_at (a := ⟨w.heap.size, 3, none⟩) (set_at (a := ⟨w.heap.size, 2, none⟩) (set_at (a := ⟨w.heap.size, 1, none⟩) (set_at (a := ⟨w.heap.size, 0, none⟩) Xres_1.out rfl rfl (.int .i64 cg.room)) rfl rfl (.slice ag1 cg.items.length pg1)) rfl rfl (.slice ag2 cg.senders.length pg2)) rfl rfl (.slice ag3 cg.getters.length pg3)) (by decide) (.bool cg.closed)).mono (by first | omega | (simp only [szA, szS, szD, World.heap_drewN] at * <;> omega)) (by first | omega | (simp only [szA, szS, szD, World.heap_drewN] at * <;> omega)), hfg, hy0, (below_setAt (below_setAt (below_setAt (below_setAt (below_setAt B1.out (w.heap.size) 0 (by first | omega | (simp only [szA, szS, szD, World.heap_drewN] at * <;> omega)) (.int .i64 cg.room)) (w.heap.size) 1 (by first | omega | (simp only [szA, szS, szD, World.heap_drewN] at * <;> omega)) (.slice ag1 cg.items.length pg1)) (w.heap.size) 2 (by first | omega | (simp only [szA, szS, szD, World.heap_drewN] at * <;> omega)) (.slice ag2 cg.senders.length pg2)) (w.heap.size) 3 (by first | omega | (simp only [szA, szS, szD, World.heap_drewN] at * <;> omega)) (.slice ag3 cg.getters.length pg3)) (w.heap.size) 4 (by first | omega | (simp only [szA, szS, szD, World.heap_drewN] at * <;> omega)) (.bool cg.closed))⟩
end Go.Proofs.Ytpgiinklbnlloaa
