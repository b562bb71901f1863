/- FnExactProgSame: the law's walk (made by exact.py). -/
import Derived.Test.YtobkammimkgnkaaProgSame
namespace Go.Proofs.Ytobkammimkgnkaa
open Go.RowKit
set_option linter.unusedSimpArgs false
set_option linter.unusedVariables false
set_option maxHeartbeats 8000000 in
theorem FnExactProgSame_calls (v : Value) (c : ProgD) (v' : Value) (d : ProgD) (w : World) (h : ProgRow w v c) (h' : ProgRow w v' d) :
    Calls Try.prog 3 #[v, v'] w fun e w' => e = .returned (.bool true) ∧ Below w.heap.size w w' := by
  have HA := Lib.hid h
  obtain ⟨aA0, pA0, aA1, pA1, aA2, pA2, aA3, pA3, aA4, pA4, rfl, h⟩ := h
  clear h
  have HB := Lib.hid h'
  obtain ⟨aB0, pB0, aB1, pB1, aB2, pB2, aB3, pB3, aB4, pB4, rfl, h⟩ := h'
  clear h
  go_enter Try.func3, Try.ntmps3
  go_wp2_with (fail)
  refine (szProg_calls _ c 1048576 _ (ProgRow.below HA.out (Below.alloc (Below.alloc (Below.refl _ _) (by first | omega | (simp only [szA, szS, szD, World.heap_drewN] at * <;> omega)) _) (by first | omega | (simp only [szA, szS, szD, World.heap_drewN] at * <;> omega)) _)) (by omega) (by omega)).mono ?_
  rintro e w1 ⟨rfl, hb⟩
  have B1 := Lib.hid (Below.trans (Below.alloc (Below.alloc (Below.refl _ _) (by first | omega | (simp only [szA, szS, szD, World.heap_drewN] at * <;> omega)) _) (by first | omega | (simp only [szA, szS, szD, World.heap_drewN] at * <;> omega)) _) (hb.mono (by first | omega | (simp only [szA, szS, szD, World.heap_drewN] at * <;> omega))) : Below w.heap.size w w1); have Z1 := hb.size
  have N1 : w.heap.size + 2 ≤ w1.heap.size := (by first | exact Z1 | (simp only [szA, szD] at Z1; omega))
  clear Z1
  have XA_1 : Hid (w1.heap[w.heap.size]? = some (.cells #[.slice aA0 c.sems.length pA0, .slice aA1 c.groups.length pA1, .slice aA2 c.barriers.length pA2, .slice aA3 c.rooms.length pA3, .slice aA4 c.threads.length pA4] 25 (0, 0))) := below_at hb (heap_up (heap_at' (n := w.heap.size) (by first | omega | (simp only [szA, szS, szD, World.heap_drewN] at * <;> omega))))
  have XB_1 : Hid (w1.heap[w.heap.size + 1]? = some (.cells #[.slice aB0 d.sems.length pB0, .slice aB1 d.groups.length pB1, .slice aB2 d.barriers.length pB2, .slice aB3 d.rooms.length pB3, .slice aB4 d.threads.length pB4] 25 (0, 0))) := below_at hb (heap_at' (n := w.heap.size + 1) (by first | omega | (simp only [szA, szS, szD, World.heap_drewN] at * <;> omega)))
  clear hb
  obtain ⟨cA10, cA11, cA12, cA13, cA14, fA10, fA11, fA12, fA13, fA14⟩ := box5 XA_1.out; have lA1 := heap_lt XA_1.out
  obtain ⟨cB10, cB11, cB12, cB13, cB14, fB10, fB11, fB12, fB13, fB14⟩ := box5 XB_1.out; have lB1 := heap_lt XB_1.out
  by_cases hsz : ((c.sems.length + c.groups.length + c.barriers.length + c.rooms.length + ttLen c.threads : Nat) : Int) ≤ 1048576
  · rw [szF_pos hsz]
    go_wp2_with (fail)
    refine (szProg_calls _ d (1048576 - ((c.sems.length + c.groups.length + c.barriers.length + c.rooms.length + ttLen c.threads : Nat) : Int)) _ (ProgRow.below HB.out B1.out) (by omega) (by omega)).mono ?_
    rintro e w2 ⟨rfl, hb⟩
    have B2 := Lib.hid (Below.trans B1.out (hb.mono (by first | omega | (simp only [szA, szS, szD, World.heap_drewN] at * <;> omega))) : Below w.heap.size w w2); have Z2 := hb.size
    have N2 : w1.heap.size ≤ w2.heap.size := (by first | exact Z2 | (simp only [szA, szD] at Z2; omega))
    clear Z2
    have XA_2 := Lib.hid (below_at hb XA_1.out)
    have XB_2 := Lib.hid (below_at hb XB_1.out)
    clear hb
    obtain ⟨cA20, cA21, cA22, cA23, cA24, fA20, fA21, fA22, fA23, fA24⟩ := box5 XA_2.out; have lA2 := heap_lt XA_2.out
    obtain ⟨cB20, cB21, cB22, cB23, cB24, fB20, fB21, fB22, fB23, fB24⟩ := box5 XB_2.out; have lB2 := heap_lt XB_2.out
    clear cA10 cA11 cA12 cA13 cA14 fA10 fA11 fA12 fA13 fA14 cB10 cB11 cB12 cB13 cB14 fB10 fB11 fB12 fB13 fB14
    by_cases hsz' : ((d.sems.length + d.groups.length + d.barriers.length + d.rooms.length + ttLen d.threads : Nat) : Int) ≤ 1048576 - ((c.sems.length + c.groups.length + c.barriers.length + c.rooms.length + ttLen c.threads : Nat) : Int)
    · rw [szF_pos hsz']
      have hc2 : c.sems.length + c.groups.length + c.barriers.length + c.rooms.length + ttLen c.threads ≤ 1048576 := by omega
      have hd2 : d.sems.length + d.groups.length + d.barriers.length + d.rooms.length + ttLen d.threads ≤ 1048576 := by omega
      clear hsz
      go_wp2_with (fail)
      go_region_held3 (fun w' => w'.cell? ⟨w.heap.size, 0, none⟩ = some (.slice aA0 c.sems.length pA0) ∧ w'.cell? ⟨w.heap.size, 1, none⟩ = some (.slice aA1 c.groups.length pA1) ∧ w'.cell? ⟨w.heap.size, 2, none⟩ = some (.slice aA2 c.barriers.length pA2) ∧ w'.cell? ⟨w.heap.size, 3, none⟩ = some (.slice aA3 c.rooms.length pA3) ∧ w'.cell? ⟨w.heap.size, 4, none⟩ = some (.slice aA4 c.threads.length pA4) ∧ w'.cell? ⟨w.heap.size + 1, 0, none⟩ = some (.slice aB0 d.sems.length pB0) ∧ w'.cell? ⟨w.heap.size + 1, 1, none⟩ = some (.slice aB1 d.groups.length pB1) ∧ w'.cell? ⟨w.heap.size + 1, 2, none⟩ = some (.slice aB2 d.barriers.length pB2) ∧ w'.cell? ⟨w.heap.size + 1, 3, none⟩ = some (.slice aB3 d.rooms.length pB3) ∧ w'.cell? ⟨w.heap.size + 1, 4, none⟩ = some (.slice aB4 d.threads.length pB4)) (go_keep)
        (first
          | (go_at_call 14; (with_reducible refine (toProg_calls _ c _ (ProgRow.below HA.out B2.out.drew) hc2).mono ?_); rintro e w3 ⟨vu, rfl, ho_u, hb⟩; have B3 := Lib.hid (Below.trans B2.out.drew (hb.mono (by first | omega | (simp only [szA, szS, szD, World.heap_drewN] at * <;> omega))) : Below w.heap.size w w3); have Z3 := hb.size; have N3 : w2.heap.size ≤ w3.heap.size := (by first | exact Z3 | (simp only [szA, szD] at Z3; omega)); clear Z3; have XA_3 := Lib.hid (below_at hb (heap_drew XA_2.out)); have XB_3 := Lib.hid (below_at hb (heap_drew XB_2.out)); have Ou_3 := Lib.hid (ho_u.mono (lo' := w2.heap.size) (by first | omega | (simp only [szA, szS, szD, World.heap_drewN] at * <;> omega)) (Nat.le_refl _)); obtain ⟨au0, pu0, au1, pu1, au2, pu2, au3, pu3, au4, pu4, rfl, hx_u⟩ := ho_u; clear hx_u; clear hb; obtain ⟨cA30, cA31, cA32, cA33, cA34, fA30, fA31, fA32, fA33, fA34⟩ := box5 XA_3.out; have lA3 := heap_lt XA_3.out; obtain ⟨cB30, cB31, cB32, cB33, cB34, fB30, fB31, fB32, fB33, fB34⟩ := box5 XB_3.out; have lB3 := heap_lt XB_3.out)
          | (go_at_call 14; (with_reducible refine (toProg_calls _ d _ (ProgRow.below HB.out B3.out) hd2).mono ?_); rintro e w4 ⟨vy, rfl, ho_y, hb⟩; have B4 := Lib.hid (Below.trans B3.out (hb.mono (by first | omega | (simp only [szA, szS, szD, World.heap_drewN] at * <;> omega))) : Below w.heap.size w w4); have Z4 := hb.size; have N4 : w3.heap.size ≤ w4.heap.size := (by first | exact Z4 | (simp only [szA, szD] at Z4; omega)); clear Z4; have XA_4 := Lib.hid (below_at hb XA_3.out); have XB_4 := Lib.hid (below_at hb XB_3.out); have Ou_4 := Lib.hid (Ou_3.out.kept hb); have Oy_4 := Lib.hid (ho_y.mono (lo' := w3.heap.size) (by first | omega | (simp only [szA, szS, szD, World.heap_drewN] at * <;> omega)) (Nat.le_refl _)); obtain ⟨ay0, py0, ay1, py1, ay2, py2, ay3, py3, ay4, py4, rfl, hx_y⟩ := ho_y; clear hx_y; clear hb; obtain ⟨cA40, cA41, cA42, cA43, cA44, fA40, fA41, fA42, fA43, fA44⟩ := box5 XA_4.out; have lA4 := heap_lt XA_4.out; obtain ⟨cB40, cB41, cB42, cB43, cB44, fB40, fB41, fB42, fB43, fB44⟩ := box5 XB_4.out; have lB4 := heap_lt XB_4.out)
          | (go_at_call 14; (with_reducible refine (toProg_calls _ d _ (ProgRow.below HB.out B2.out.drew) hd2).mono ?_); rintro e w3 ⟨vy, rfl, ho_y, hb⟩; have B3 := Lib.hid (Below.trans B2.out.drew (hb.mono (by first | omega | (simp only [szA, szS, szD, World.heap_drewN] at * <;> omega))) : Below w.heap.size w w3); have Z3 := hb.size; have N3 : w2.heap.size ≤ w3.heap.size := (by first | exact Z3 | (simp only [szA, szD] at Z3; omega)); clear Z3; have XA_3 := Lib.hid (below_at hb (heap_drew XA_2.out)); have XB_3 := Lib.hid (below_at hb (heap_drew XB_2.out)); have Oy_3 := Lib.hid (ho_y.mono (lo' := w2.heap.size) (by first | omega | (simp only [szA, szS, szD, World.heap_drewN] at * <;> omega)) (Nat.le_refl _)); obtain ⟨ay0, py0, ay1, py1, ay2, py2, ay3, py3, ay4, py4, rfl, hx_y⟩ := ho_y; clear hx_y; clear hb; obtain ⟨cA30, cA31, cA32, cA33, cA34, fA30, fA31, fA32, fA33, fA34⟩ := box5 XA_3.out; have lA3 := heap_lt XA_3.out; obtain ⟨cB30, cB31, cB32, cB33, cB34, fB30, fB31, fB32, fB33, fB34⟩ := box5 XB_3.out; have lB3 := heap_lt XB_3.out)
          | (go_at_call 14; (with_reducible refine (toProg_calls _ c _ (ProgRow.below HA.out B3.out) hc2).mono ?_); rintro e w4 ⟨vu, rfl, ho_u, hb⟩; have B4 := Lib.hid (Below.trans B3.out (hb.mono (by first | omega | (simp only [szA, szS, szD, World.heap_drewN] at * <;> omega))) : Below w.heap.size w w4); have Z4 := hb.size; have N4 : w3.heap.size ≤ w4.heap.size := (by first | exact Z4 | (simp only [szA, szD] at Z4; omega)); clear Z4; have XA_4 := Lib.hid (below_at hb XA_3.out); have XB_4 := Lib.hid (below_at hb XB_3.out); have Oy_4 := Lib.hid (Oy_3.out.kept hb); have Ou_4 := Lib.hid (ho_u.mono (lo' := w3.heap.size) (by first | omega | (simp only [szA, szS, szD, World.heap_drewN] at * <;> omega)) (Nat.le_refl _)); obtain ⟨au0, pu0, au1, pu1, au2, pu2, au3, pu3, au4, pu4, rfl, hx_u⟩ := ho_u; clear hx_u; clear hb; obtain ⟨cA40, cA41, cA42, cA43, cA44, fA40, fA41, fA42, fA43, fA44⟩ := box5 XA_4.out; have lA4 := heap_lt XA_4.out; obtain ⟨cB40, cB41, cB42, cB43, cB44, fB40, fB41, fB42, fB43, fB44⟩ := box5 XB_4.out; have lB4 := heap_lt XB_4.out)
          | (go_at_call 13; (with_reducible refine (sProgSameO _ _ c d _ (Ou_4.out.row) (Oy_4.out.row)).mono ?_); rintro e w5 ⟨rfl, hb⟩; have B5 := Lib.hid (Below.trans B4.out (hb.mono (by first | omega | (simp only [szA, szS, szD, World.heap_drewN] at * <;> omega))) : Below w.heap.size w w5); have Z5 := hb.size; have N5 : w4.heap.size ≤ w5.heap.size := (by first | exact Z5 | (simp only [szA, szD] at Z5; omega)); clear Z5; have XA_5 := Lib.hid (below_at hb XA_4.out); have XB_5 := Lib.hid (below_at hb XB_4.out); have Ou_5 := Lib.hid (Ou_4.out.kept hb); have Oy_5 := Lib.hid (Oy_4.out.kept hb); clear hb; obtain ⟨cA50, cA51, cA52, cA53, cA54, fA50, fA51, fA52, fA53, fA54⟩ := box5 XA_5.out; have lA5 := heap_lt XA_5.out; obtain ⟨cB50, cB51, cB52, cB53, cB54, fB50, fB51, fB52, fB53, fB54⟩ := box5 XB_5.out; have lB5 := heap_lt XB_5.out)
        )
      all_goals
        go_wp2_with (fail)
        refine (toProg_calls _ c _ (ProgRow.below HA.out B5.out) hc2).mono ?_
        rintro e w6 ⟨vx, rfl, ho_x, hb⟩
        have B6 := Lib.hid (Below.trans B5.out (hb.mono (by first | omega | (simp only [szA, szS, szD, World.heap_drewN] at * <;> omega))) : Below w.heap.size w w6); have Z6 := hb.size
        have N6 : w5.heap.size ≤ w6.heap.size := (by first | exact Z6 | (simp only [szA, szD] at Z6; omega))
        clear Z6
        have XA_6 := Lib.hid (below_at hb XA_5.out)
        have XB_6 := Lib.hid (below_at hb XB_5.out)
        have Ox_6 := Lib.hid (ho_x.mono (lo' := w5.heap.size) (by first | omega | (simp only [szA, szS, szD, World.heap_drewN] at * <;> omega)) (Nat.le_refl _)); obtain ⟨ax0, px0, ax1, px1, ax2, px2, ax3, px3, ax4, px4, rfl, hx_x⟩ := ho_x; clear hx_x
        clear hb
        obtain ⟨cA60, cA61, cA62, cA63, cA64, fA60, fA61, fA62, fA63, fA64⟩ := box5 XA_6.out; have lA6 := heap_lt XA_6.out
        obtain ⟨cB60, cB61, cB62, cB63, cB64, fB60, fB61, fB62, fB63, fB64⟩ := box5 XB_6.out; have lB6 := heap_lt XB_6.out
        go_wp2_with (fail)
        refine (toProg_calls _ d _ (ProgRow.below HB.out (Below.alloc B6.out (by first | omega | (simp only [szA, szS, szD, World.heap_drewN] at * <;> omega)) _)) hd2).mono ?_
        rintro e w7 ⟨vz, rfl, ho_z, hb⟩
        have B7 := Lib.hid (Below.trans (Below.alloc B6.out (by first | omega | (simp only [szA, szS, szD, World.heap_drewN] at * <;> omega)) _) (hb.mono (by first | omega | (simp only [szA, szS, szD, World.heap_drewN] at * <;> omega))) : Below w.heap.size w w7); have Z7 := hb.size
        have N7 : w6.heap.size + 1 ≤ w7.heap.size := (by first | exact Z7 | (simp only [szA, szD] at Z7; omega))
        clear Z7
        have XA_7 := Lib.hid (below_at hb (heap_up XA_6.out))
        have XB_7 := Lib.hid (below_at hb (heap_up XB_6.out))
        have Xx_7 : Hid (w7.heap[w6.heap.size]? = some (.cells #[.slice ax0 c.sems.length px0, .slice ax1 c.groups.length px1, .slice ax2 c.barriers.length px2, .slice ax3 c.rooms.length px3, .slice ax4 c.threads.length px4] 30 (0, 0))) := below_at hb (heap_at' (n := w6.heap.size) (by first | omega | (simp only [szA, szS, szD, World.heap_drewN] at * <;> omega)))
        have Ox_7 := Lib.hid ((Ox_6.out.alloc _).kept hb)
        have Oz_7 := Lib.hid (ho_z.mono (lo' := w6.heap.size + 1) (by first | omega | (simp only [szA, szS, szD, World.heap_drewN] at * <;> omega)) (Nat.le_refl _)); obtain ⟨az0, pz0, az1, pz1, az2, pz2, az3, pz3, az4, pz4, rfl, hx_z⟩ := ho_z; clear hx_z
        clear hb
        obtain ⟨cA70, cA71, cA72, cA73, cA74, fA70, fA71, fA72, fA73, fA74⟩ := box5 XA_7.out; have lA7 := heap_lt XA_7.out
        obtain ⟨cB70, cB71, cB72, cB73, cB74, fB70, fB71, fB72, fB73, fB74⟩ := box5 XB_7.out; have lB7 := heap_lt XB_7.out
        obtain ⟨cx70, cx71, cx72, cx73, cx74, fx70, fx71, fx72, fx73, fx74⟩ := box5 Xx_7.out; have lx7 := heap_lt Xx_7.out
        clear cA60 cA61 cA62 cA63 cA64 fA60 fA61 fA62 fA63 fA64 cB60 cB61 cB62 cB63 cB64 fB60 fB61 fB62 fB63 fB64
        go_wp2_with (fail)
        refine (ProgSameO _ _ c d _ ((Ox_7.out.alloc _).row) ((Oz_7.out.alloc _).row)).mono ?_
        rintro e w8 ⟨rfl, hb⟩
        have B8 := Lib.hid (Below.trans (Below.alloc B7.out (by first | omega | (simp only [szA, szS, szD, World.heap_drewN] at * <;> omega)) _) (hb.mono (by first | omega | (simp only [szA, szS, szD, World.heap_drewN] at * <;> omega))) : Below w.heap.size w w8); have Z8 := hb.size
        have N8 : w7.heap.size + 1 ≤ w8.heap.size := (by first | exact Z8 | (simp only [szA, szD] at Z8; omega))
        clear Z8
        have XA_8 := Lib.hid (below_at hb (heap_up XA_7.out))
        have XB_8 := Lib.hid (below_at hb (heap_up XB_7.out))
        have Xx_8 := Lib.hid (below_at hb (heap_up Xx_7.out))
        have Xz_8 : Hid (w8.heap[w7.heap.size]? = some (.cells #[.slice az0 d.sems.length pz0, .slice az1 d.groups.length pz1, .slice az2 d.barriers.length pz2, .slice az3 d.rooms.length pz3, .slice az4 d.threads.length pz4] 30 (0, 0))) := below_at hb (heap_at' (n := w7.heap.size) (by first | omega | (simp only [szA, szS, szD, World.heap_drewN] at * <;> omega)))
        have Ox_8 := Lib.hid ((Ox_7.out.alloc _).kept hb)
        have Oz_8 := Lib.hid ((Oz_7.out.alloc _).kept hb)
        clear hb
        obtain ⟨cA80, cA81, cA82, cA83, cA84, fA80, fA81, fA82, fA83, fA84⟩ := box5 XA_8.out; have lA8 := heap_lt XA_8.out
        obtain ⟨cB80, cB81, cB82, cB83, cB84, fB80, fB81, fB82, fB83, fB84⟩ := box5 XB_8.out; have lB8 := heap_lt XB_8.out
        obtain ⟨cx80, cx81, cx82, cx83, cx84, fx80, fx81, fx82, fx83, fx84⟩ := box5 Xx_8.out; have lx8 := heap_lt Xx_8.out
        obtain ⟨cz80, cz81, cz82, cz83, cz84, fz80, fz81, fz82, fz83, fz84⟩ := box5 Xz_8.out; have lz8 := heap_lt Xz_8.out
        clear cA70 cA71 cA72 cA73 cA74 fA70 fA71 fA72 fA73 fA74 cB70 cB71 cB72 cB73 cB74 fB70 fB71 fB72 fB73 fB74 cx70 cx71 cx72 cx73 cx74 fx70 fx71 fx72 fx73 fx74
        go_wp2_with (fail)
        go_region_held3 (fun w' => w'.cell? ⟨w6.heap.size, 0, none⟩ = some (.slice ax0 c.sems.length px0) ∧ w'.cell? ⟨w6.heap.size, 1, none⟩ = some (.slice ax1 c.groups.length px1) ∧ w'.cell? ⟨w6.heap.size, 2, none⟩ = some (.slice ax2 c.barriers.length px2) ∧ w'.cell? ⟨w6.heap.size, 3, none⟩ = some (.slice ax3 c.rooms.length px3) ∧ w'.cell? ⟨w6.heap.size, 4, none⟩ = some (.slice ax4 c.threads.length px4) ∧ w'.cell? ⟨w.heap.size, 0, none⟩ = some (.slice aA0 c.sems.length pA0) ∧ w'.cell? ⟨w.heap.size, 1, none⟩ = some (.slice aA1 c.groups.length pA1) ∧ w'.cell? ⟨w.heap.size, 2, none⟩ = some (.slice aA2 c.barriers.length pA2) ∧ w'.cell? ⟨w.heap.size, 3, none⟩ = some (.slice aA3 c.rooms.length pA3) ∧ w'.cell? ⟨w.heap.size, 4, none⟩ = some (.slice aA4 c.threads.length pA4)) (go_keep)
          (first
            | (go_at_call 14; refine (toProg_calls _ c _ (ProgRow.below HA.out B8.out.drew) hc2).mono ?_; rintro e w9 ⟨vq, rfl, ho_q, hb⟩; have B9 := Lib.hid (Below.trans B8.out.drew (hb.mono (by first | omega | (simp only [szA, szS, szD, World.heap_drewN] at * <;> omega))) : Below w.heap.size w w9); have Z9 := hb.size; have N9 : w8.heap.size ≤ w9.heap.size := (by first | exact Z9 | (simp only [szA, szD] at Z9; omega)); clear Z9; have XA_9 := Lib.hid (below_at hb (heap_drew XA_8.out)); have XB_9 := Lib.hid (below_at hb (heap_drew XB_8.out)); have Xx_9 := Lib.hid (below_at hb (heap_drew Xx_8.out)); have Xz_9 := Lib.hid (below_at hb (heap_drew Xz_8.out)); have Ox_9 := Lib.hid ((Ox_8.out.drew).kept hb); have Oz_9 := Lib.hid ((Oz_8.out.drew).kept hb); have Oq_9 := Lib.hid (ho_q.mono (lo' := w8.heap.size) (by first | omega | (simp only [szA, szS, szD, World.heap_drewN] at * <;> omega)) (Nat.le_refl _)); obtain ⟨aq0, pq0, aq1, pq1, aq2, pq2, aq3, pq3, aq4, pq4, rfl, hx_q⟩ := ho_q; clear hx_q; clear hb; obtain ⟨cA90, cA91, cA92, cA93, cA94, fA90, fA91, fA92, fA93, fA94⟩ := box5 XA_9.out; have lA9 := heap_lt XA_9.out; obtain ⟨cB90, cB91, cB92, cB93, cB94, fB90, fB91, fB92, fB93, fB94⟩ := box5 XB_9.out; have lB9 := heap_lt XB_9.out; obtain ⟨cx90, cx91, cx92, cx93, cx94, fx90, fx91, fx92, fx93, fx94⟩ := box5 Xx_9.out; have lx9 := heap_lt Xx_9.out; obtain ⟨cz90, cz91, cz92, cz93, cz94, fz90, fz91, fz92, fz93, fz94⟩ := box5 Xz_9.out; have lz9 := heap_lt Xz_9.out)
            | (go_at_call 16; refine (eqProg_calls _ _ c c _ (Ox_9.out.row) (Oq_9.out.row)).mono ?_; rw [decide_eq_true rfl]; rintro e w10 ⟨rfl, hb⟩; have B10 := Lib.hid (Below.trans B9.out (hb.mono (by first | omega | (simp only [szA, szS, szD, World.heap_drewN] at * <;> omega))) : Below w.heap.size w w10); have Z10 := hb.size; have N10 : w9.heap.size ≤ w10.heap.size := (by first | exact Z10 | (simp only [szA, szD] at Z10; omega)); clear Z10; have XA_10 := Lib.hid (below_at hb XA_9.out); have XB_10 := Lib.hid (below_at hb XB_9.out); have Xx_10 := Lib.hid (below_at hb Xx_9.out); have Xz_10 := Lib.hid (below_at hb Xz_9.out); have Ox_10 := Lib.hid (Ox_9.out.kept hb); have Oz_10 := Lib.hid (Oz_9.out.kept hb); have Oq_10 := Lib.hid (Oq_9.out.kept hb); clear hb; obtain ⟨cA100, cA101, cA102, cA103, cA104, fA100, fA101, fA102, fA103, fA104⟩ := box5 XA_10.out; have lA10 := heap_lt XA_10.out; obtain ⟨cB100, cB101, cB102, cB103, cB104, fB100, fB101, fB102, fB103, fB104⟩ := box5 XB_10.out; have lB10 := heap_lt XB_10.out; obtain ⟨cx100, cx101, cx102, cx103, cx104, fx100, fx101, fx102, fx103, fx104⟩ := box5 Xx_10.out; have lx10 := heap_lt Xx_10.out; obtain ⟨cz100, cz101, cz102, cz103, cz104, fz100, fz101, fz102, fz103, fz104⟩ := box5 Xz_10.out; have lz10 := heap_lt Xz_10.out)
          )
        clear cA80 cA81 cA82 cA83 cA84 fA80 fA81 fA82 fA83 fA84 cB80 cB81 cB82 cB83 cB84 fB80 fB81 fB82 fB83 fB84 cx80 cx81 cx82 cx83 cx84 fx80 fx81 fx82 fx83 fx84 cz80 cz81 cz82 cz83 cz84 fz80 fz81 fz82 fz83 fz84
        go_wp2_with (fail)
        go_region_held3 (fun w' => w'.cell? ⟨w7.heap.size, 0, none⟩ = some (.slice az0 d.sems.length pz0) ∧ w'.cell? ⟨w7.heap.size, 1, none⟩ = some (.slice az1 d.groups.length pz1) ∧ w'.cell? ⟨w7.heap.size, 2, none⟩ = some (.slice az2 d.barriers.length pz2) ∧ w'.cell? ⟨w7.heap.size, 3, none⟩ = some (.slice az3 d.rooms.length pz3) ∧ w'.cell? ⟨w7.heap.size, 4, none⟩ = some (.slice az4 d.threads.length pz4) ∧ w'.cell? ⟨w.heap.size + 1, 0, none⟩ = some (.slice aB0 d.sems.length pB0) ∧ w'.cell? ⟨w.heap.size + 1, 1, none⟩ = some (.slice aB1 d.groups.length pB1) ∧ w'.cell? ⟨w.heap.size + 1, 2, none⟩ = some (.slice aB2 d.barriers.length pB2) ∧ w'.cell? ⟨w.heap.size + 1, 3, none⟩ = some (.slice aB3 d.rooms.length pB3) ∧ w'.cell? ⟨w.heap.size + 1, 4, none⟩ = some (.slice aB4 d.threads.length pB4)) (go_keep)
          (first
            | (go_at_call 14; refine (toProg_calls _ d _ (ProgRow.below HB.out B10.out.drew) hd2).mono ?_; rintro e w11 ⟨vq, rfl, ho_q, hb⟩; have B11 := Lib.hid (Below.trans B10.out.drew (hb.mono (by first | omega | (simp only [szA, szS, szD, World.heap_drewN] at * <;> omega))) : Below w.heap.size w w11); have Z11 := hb.size; have N11 : w10.heap.size ≤ w11.heap.size := (by first | exact Z11 | (simp only [szA, szD] at Z11; omega)); clear Z11; have XA_11 := Lib.hid (below_at hb (heap_drew XA_10.out)); have XB_11 := Lib.hid (below_at hb (heap_drew XB_10.out)); have Xx_11 := Lib.hid (below_at hb (heap_drew Xx_10.out)); have Xz_11 := Lib.hid (below_at hb (heap_drew Xz_10.out)); have Ox_11 := Lib.hid ((Ox_10.out.drew).kept hb); have Oz_11 := Lib.hid ((Oz_10.out.drew).kept hb); have Oq_11 := Lib.hid (ho_q.mono (lo' := w10.heap.size) (by first | omega | (simp only [szA, szS, szD, World.heap_drewN] at * <;> omega)) (Nat.le_refl _)); obtain ⟨aq0, pq0, aq1, pq1, aq2, pq2, aq3, pq3, aq4, pq4, rfl, hx_q⟩ := ho_q; clear hx_q; clear hb; obtain ⟨cA110, cA111, cA112, cA113, cA114, fA110, fA111, fA112, fA113, fA114⟩ := box5 XA_11.out; have lA11 := heap_lt XA_11.out; obtain ⟨cB110, cB111, cB112, cB113, cB114, fB110, fB111, fB112, fB113, fB114⟩ := box5 XB_11.out; have lB11 := heap_lt XB_11.out; obtain ⟨cx110, cx111, cx112, cx113, cx114, fx110, fx111, fx112, fx113, fx114⟩ := box5 Xx_11.out; have lx11 := heap_lt Xx_11.out; obtain ⟨cz110, cz111, cz112, cz113, cz114, fz110, fz111, fz112, fz113, fz114⟩ := box5 Xz_11.out; have lz11 := heap_lt Xz_11.out)
            | (go_at_call 16; refine (eqProg_calls _ _ d d _ (Oz_11.out.row) (Oq_11.out.row)).mono ?_; rw [decide_eq_true rfl]; rintro e w12 ⟨rfl, hb⟩; have B12 := Lib.hid (Below.trans B11.out (hb.mono (by first | omega | (simp only [szA, szS, szD, World.heap_drewN] at * <;> omega))) : Below w.heap.size w w12); have Z12 := hb.size; have N12 : w11.heap.size ≤ w12.heap.size := (by first | exact Z12 | (simp only [szA, szD] at Z12; omega)); clear Z12; have XA_12 := Lib.hid (below_at hb XA_11.out); have XB_12 := Lib.hid (below_at hb XB_11.out); have Xx_12 := Lib.hid (below_at hb Xx_11.out); have Xz_12 := Lib.hid (below_at hb Xz_11.out); have Ox_12 := Lib.hid (Ox_11.out.kept hb); have Oz_12 := Lib.hid (Oz_11.out.kept hb); have Oq_12 := Lib.hid (Oq_11.out.kept hb); clear hb; obtain ⟨cA120, cA121, cA122, cA123, cA124, fA120, fA121, fA122, fA123, fA124⟩ := box5 XA_12.out; have lA12 := heap_lt XA_12.out; obtain ⟨cB120, cB121, cB122, cB123, cB124, fB120, fB121, fB122, fB123, fB124⟩ := box5 XB_12.out; have lB12 := heap_lt XB_12.out; obtain ⟨cx120, cx121, cx122, cx123, cx124, fx120, fx121, fx122, fx123, fx124⟩ := box5 Xx_12.out; have lx12 := heap_lt Xx_12.out; obtain ⟨cz120, cz121, cz122, cz123, cz124, fz120, fz121, fz122, fz123, fz124⟩ := box5 Xz_12.out; have lz12 := heap_lt Xz_12.out)
          )
        clear cA100 cA101 cA102 cA103 cA104 fA100 fA101 fA102 fA103 fA104 cB100 cB101 cB102 cB103 cB104 fB100 fB101 fB102 fB103 fB104 cx100 cx101 cx102 cx103 cx104 fx100 fx101 fx102 fx103 fx104 cz100 cz101 cz102 cz103 cz104 fz100 fz101 fz102 fz103 fz104
        go_wp2
        go_ret
        exact ⟨rfl, B12.out⟩
    · rw [szF_neg hsz']
      go_wp2
      go_ret
      exact ⟨rfl, B2.out⟩
  · rw [szF_neg hsz]
    go_wp2
    go_ret
    exact ⟨rfl, B1.out⟩
end Go.Proofs.Ytobkammimkgnkaa
