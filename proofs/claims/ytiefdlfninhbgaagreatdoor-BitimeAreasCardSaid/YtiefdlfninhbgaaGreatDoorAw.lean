/- Contract of the statements' awake: the example of the chapter. -/
import Derived.Test.YtiefdlfninhbgaaGreatDoorP9
import Derived.Test.YtiefdlfninhbgaaGreatDoorT1
import Derived.Deep.RegionWith
namespace Go.Proofs.YtiefdlfninhbgaaGreatDoor
open Go.RowKit Go.Shelf

def r1 : Reg := ⟨0, 10, 0, 5⟩
def r2 : Reg := ⟨5, 15, 2, 8⟩
def want : List Reg := [⟨0, 5, 0, 5⟩, ⟨5, 10, 0, 8⟩, ⟨10, 15, 2, 8⟩]
def cm : List Reg := [⟨5, 10, 2, 5⟩]
theorem aw1 : pNormL [r1, r2] = (want, 0) := by
  unfold pNormL pNormal combL
  rw [distL_eq, distL_eq]
  decide +kernel
theorem aw2 : pCheckL [r1, r2] = 8 := by
  unfold pCheckL pNormal combL
  rw [distL_eq, distL_eq]
  decide +kernel
theorem chk1 : pCheckL [r1] = 0 := by
  unfold pCheckL pNormal combL
  rw [distL_eq, distL_eq]
  decide +kernel
theorem chk2 : pCheckL [r2] = 0 := by
  unfold pCheckL pNormal combL
  rw [distL_eq, distL_eq]
  decide +kernel
theorem chk3 : pCheckL cm = 0 := by
  unfold pCheckL pNormal combL
  rw [distL_eq, distL_eq]
  decide +kernel
theorem chk4 : pCheckL want = 0 := by
  unfold pCheckL pNormal combL
  rw [distL_eq, distL_eq]
  decide +kernel
theorem aw3 : pOper (fun x y => x && y) [r1] [r2] = (cm, 0) := by
  unfold pOper
  rw [if_pos ⟨chk1, chk2⟩]
  unfold combL
  rw [distL_eq, distL_eq]
  decide +kernel
theorem aw4 : pOper (fun x y => x || y) [r1] [r2] = (want, 0) := by
  unfold pOper
  rw [if_pos ⟨chk1, chk2⟩]
  unfold combL
  rw [distL_eq, distL_eq]
  decide +kernel
theorem of2 (a b : Nat) (ha : 0 < a) (ha' : a < 10) (hb : b < 10) : Lib.itoa ((10 * a + b : Nat) : Int) = [UInt8.ofNat (48 + a), UInt8.ofNat (48 + b)] := by
  unfold Lib.itoa
  rw [if_neg (by omega)]
  simp only [Int.toNat_natCast]
  rw [Lib.decDigits, dif_neg (by omega), Lib.decDigits, dif_pos (by omega), show (10 * a + b) / 10 = a by omega, show (10 * a + b) % 10 = b by omega]
  rfl
theorem aw5 : pAreaL [r1] = ([53, 48], 0) := by
  unfold pAreaL
  rw [if_pos chk1, show areaL [r1] = ((10 * 5 + 0 : Nat) : Int) by decide]
  unfold ofL
  rw [of2 5 0 (by omega) (by omega) (by omega)]
  decide +kernel
theorem aw6 : pAreaL [r2] = ([54, 48], 0) := by
  unfold pAreaL
  rw [if_pos chk2, show areaL [r2] = ((10 * 6 + 0 : Nat) : Int) by decide]
  unfold ofL
  rw [of2 6 0 (by omega) (by omega) (by omega)]
  decide +kernel
theorem aw7 : pAreaL cm = ([49, 53], 0) := by
  unfold pAreaL
  rw [if_pos chk3, show areaL cm = ((10 * 1 + 5 : Nat) : Int) by decide]
  unfold ofL
  rw [of2 1 5 (by omega) (by omega) (by omega)]
  decide +kernel
theorem aw8 : pAreaL want = ([57, 53], 0) := by
  unfold pAreaL
  rw [if_pos chk4, show areaL want = ((10 * 9 + 5 : Nat) : Int) by decide]
  unfold ofL
  rw [of2 9 5 (by omega) (by omega) (by omega)]
  decide +kernel

set_option maxRecDepth 100000 in
set_option maxHeartbeats 2000000 in
theorem awake_any (w : World) : Calls Tryz.prog 10 #[] w fun e w' => e = .returned (.bool true) ∧ Below w.heap.size w w' := by
  have hL0 := Sl.lit (enc := Reg.vals) (k := 4) w #[.int .i64 0, .int .i64 10, .int .i64 0, .int .i64 5, .int .i64 5, .int .i64 15, .int .i64 2, .int .i64 8] 35 [r1, r2] rfl Reg.vals_len
  have hb0 : Below w.heap.size w (w.alloc (.cells #[.int .i64 0, .int .i64 10, .int .i64 0, .int .i64 5, .int .i64 5, .int .i64 15, .int .i64 2, .int .i64 8] 35)) := (Below.refl _ _).alloc (Nat.le_refl _) _
  have hL : Rgs (w.alloc (.cells #[.int .i64 0, .int .i64 10, .int .i64 0, .int .i64 5, .int .i64 5, .int .i64 15, .int .i64 2, .int .i64 8] 35)) (w.alloc (.cells #[.int .i64 0, .int .i64 10, .int .i64 0, .int .i64 5, .int .i64 5, .int .i64 15, .int .i64 2, .int .i64 8] 35)).heap.size (some ⟨w.heap.size, 0, none⟩) 2 [r1, r2] := by simpa using hL0
  have HL := Lib.hid hL; clear hL hL0
  have HB := Lib.hid hb0; clear hb0
  go_enter Tryz.func10, Tryz.ntmps10
  go_wp2_with fail
  generalize w.alloc (.cells #[.int .i64 0, .int .i64 10, .int .i64 0, .int .i64 5, .int .i64 5, .int .i64 15, .int .i64 2, .int .i64 8] 35) = W0 at *
  have HN := Lib.hid (Normal_any (some ⟨w.heap.size, 0, none⟩) 2 2 [r1, r2] W0 HL.out (by omega))
  rw [aw1] at HN
  refine HN.out.mono ?_
  rintro e w1 ⟨A1, c1, rfl, ho1, hb1⟩
  clear HN
  have HO1 := Lib.hid ho1; clear ho1
  have HLx := HL
  have HL := Lib.hid (HLx.out.here hb1); clear HLx
  have HBx := HB
  have HB := Lib.hid (HBx.out.trans (hb1.mono HBx.out.size)); clear HBx hb1
  go_wp2_with fail
  have HN := Lib.hid (Area_small (some ⟨w.heap.size, 0, none⟩) 1 2 [r1] w1 (HL.out.take (by omega)) (by omega) (by decide) (by decide))
  rw [aw5] at HN
  refine HN.out.mono ?_
  rintro e w2 ⟨rfl, hb2⟩
  clear HN
  have HO2 := Lib.hid (HO1.out.below hb2); clear HO1
  have HLx := HL
  have HL := Lib.hid (HLx.out.here hb2); clear HLx
  have HBx := HB
  have HB := Lib.hid (HBx.out.trans (hb2.mono HBx.out.size)); clear HBx hb2
  unfold S
  go_wp2_with fail
  have hd : Rgs w2 w2.heap.size (some ⟨w.heap.size, 4, none⟩) 1 [r2] := by have := HL.out.drop (m := 1) (by omega); simpa using this
  have HN := Lib.hid (Area_small (some ⟨w.heap.size, 4, none⟩) 1 1 [r2] w2 hd (by omega) (by decide) (by decide))
  clear hd
  rw [aw6] at HN
  refine HN.out.mono ?_
  rintro e w3 ⟨rfl, hb3⟩
  clear HN
  have HO3 := Lib.hid (HO2.out.below hb3); clear HO2
  have HLx := HL
  have HL := Lib.hid (HLx.out.here hb3); clear HLx
  have HBx := HB
  have HB := Lib.hid (HBx.out.trans (hb3.mono HBx.out.size)); clear HBx hb3
  unfold S
  go_wp2_with fail
  have HN := Lib.hid (show ∀ W, Below w3.heap.size w3 W → Calls Tryz.prog 24 #[.slice (some ⟨w.heap.size, 0, none⟩) 1 2, .slice (some ⟨w.heap.size, 4, none⟩) 1 1] W (RetOwn2 Reg.vals 4 35 W.heap.size W (cm, 0)) from fun W hW => by
    have h1 : Rgs W W.heap.size (some ⟨w.heap.size, 0, none⟩) 1 [r1] := (HL.out.here hW).take (by omega)
    have h2 : Rgs W W.heap.size (some ⟨w.heap.size, 4, none⟩) 1 [r2] := by have := (HL.out.here hW).drop (m := 1) (by omega); simpa using this
    rw [← aw3]
    exact Common_any _ _ 1 1 2 1 [r1] [r2] W h1 h2 (by omega) (by omega))
  go_region_with (go_at_call 24; refine (HN.out _ (Below.refl _ _).drew).mono ?_; rintro e w4 ⟨A4, c4, rfl, ho4, hb4⟩)
  clear HN
  have hb4' : Below w3.heap.size w3 w4 := (Below.refl _ w3).drew.trans hb4
  clear hb4
  have HO4 := Lib.hid (HO3.out.below hb4'); clear HO3
  have HC4 := Lib.hid ho4; clear ho4
  have HLx := HL
  have HL := Lib.hid (HLx.out.here hb4'); clear HLx
  have HBx := HB
  have HB := Lib.hid (HBx.out.trans (hb4'.mono HBx.out.size)); clear HBx
  clear hb4'
  go_wp2_with fail
  have HN := Lib.hid (Area_small A4 cm.length c4 cm w4 (HC4.out.sl Reg.vals_len) (by decide) (by decide) (by decide))
  rw [aw7] at HN
  refine HN.out.mono ?_
  rintro e w5 ⟨rfl, hb5⟩
  clear HN HC4
  have HO5 := Lib.hid (HO4.out.below hb5); clear HO4
  have HLx := HL
  have HL := Lib.hid (HLx.out.here hb5); clear HLx
  have HBx := HB
  have HB := Lib.hid (HBx.out.trans (hb5.mono HBx.out.size)); clear HBx
  clear hb5
  unfold S
  go_wp2_with fail
  have HN := Lib.hid (show ∀ W, Below w5.heap.size w5 W → Calls Tryz.prog 20 #[.slice (some ⟨w.heap.size, 0, none⟩) 1 2, .slice (some ⟨w.heap.size, 4, none⟩) 1 1] W (RetOwn2 Reg.vals 4 35 W.heap.size W (want, 0)) from fun W hW => by
    have h1 : Rgs W W.heap.size (some ⟨w.heap.size, 0, none⟩) 1 [r1] := (HL.out.here hW).take (by omega)
    have h2 : Rgs W W.heap.size (some ⟨w.heap.size, 4, none⟩) 1 [r2] := by have := (HL.out.here hW).drop (m := 1) (by omega); simpa using this
    rw [← aw4]
    exact Unite_any _ _ 1 1 2 1 [r1] [r2] W h1 h2 (by omega) (by omega))
  go_region_with (go_at_call 20; refine (HN.out _ (Below.refl _ _).drew).mono ?_; rintro e w6 ⟨A6, c6, rfl, ho6, hb6⟩)
  clear HN
  have hb6' : Below w5.heap.size w5 w6 := (Below.refl _ w5).drew.trans hb6
  clear hb6
  have HO6 := Lib.hid (HO5.out.below hb6'); clear HO5
  have HU6 := Lib.hid ho6; clear ho6
  have HLx := HL
  have HL := Lib.hid (HLx.out.here hb6'); clear HLx
  have HBx := HB
  have HB := Lib.hid (HBx.out.trans (hb6'.mono HBx.out.size)); clear HBx
  clear hb6'
  go_wp2_with fail
  have HN := Lib.hid (Area_small A6 want.length c6 want w6 (HU6.out.sl Reg.vals_len) (by decide) (by decide) (by decide))
  rw [aw8] at HN
  refine HN.out.mono ?_
  rintro e w7 ⟨rfl, hb7⟩
  clear HN
  have HO7 := Lib.hid (HO6.out.below hb7); clear HO6
  have HU7 := Lib.hid (HU6.out.below hb7); clear HU6
  have HLx := HL
  have HL := Lib.hid (HLx.out.here hb7); clear HLx
  have HBx := HB
  have HB := Lib.hid (HBx.out.trans (hb7.mono HBx.out.size)); clear HBx
  clear hb7
  unfold S
  have hW0 := Sl.lit (enc := Reg.vals) (k := 4) w7 #[.int .i64 0, .int .i64 5, .int .i64 0, .int .i64 5, .int .i64 5, .int .i64 10, .int .i64 0, .int .i64 8, .int .i64 10, .int .i64 15, .int .i64 2, .int .i64 8] 35 want rfl Reg.vals_len
  have hW : Rgs (w7.alloc (.cells #[.int .i64 0, .int .i64 5, .int .i64 0, .int .i64 5, .int .i64 5, .int .i64 10, .int .i64 0, .int .i64 8, .int .i64 10, .int .i64 15, .int .i64 2, .int .i64 8] 35)) (w7.alloc (.cells #[.int .i64 0, .int .i64 5, .int .i64 0, .int .i64 5, .int .i64 5, .int .i64 10, .int .i64 0, .int .i64 8, .int .i64 10, .int .i64 15, .int .i64 2, .int .i64 8] 35)).heap.size (some ⟨w7.heap.size, 0, none⟩) 3 want := by simpa [want] using hW0
  have hb8 : Below w7.heap.size w7 (w7.alloc (.cells #[.int .i64 0, .int .i64 5, .int .i64 0, .int .i64 5, .int .i64 5, .int .i64 10, .int .i64 0, .int .i64 8, .int .i64 10, .int .i64 15, .int .i64 2, .int .i64 8] 35)) := (Below.refl _ _).alloc (Nat.le_refl _) _
  have HW := Lib.hid hW; clear hW hW0
  have HO8 := Lib.hid (HO7.out.below hb8); clear HO7
  have HU8 := Lib.hid (HU7.out.below hb8); clear HU7
  have HLx := HL
  have HL := Lib.hid (HLx.out.here hb8); clear HLx
  have HBx := HB
  have HB := Lib.hid (HBx.out.trans (hb8.mono HBx.out.size)); clear HBx
  clear hb8
  go_wp2_with fail
  generalize w7.alloc (.cells #[.int .i64 0, .int .i64 5, .int .i64 0, .int .i64 5, .int .i64 5, .int .i64 10, .int .i64 0, .int .i64 8, .int .i64 10, .int .i64 15, .int .i64 2, .int .i64 8] 35) = W8 at *
  refine (equalR_any A1 (some ⟨w7.heap.size, 0, none⟩) _ 3 c1 3 want want W8 (HO8.out.sl Reg.vals_len) HW.out (by decide) (by omega)).mono ?_
  rintro e w9 ⟨rfl, q9, rfl⟩
  rw [show decide (want = want) = true from by decide]
  go_wp2_with fail
  refine (equalR_any A6 (some ⟨w7.heap.size, 0, none⟩) _ 3 c6 3 want want _ ((HU8.out.drewN q9).sl Reg.vals_len) (HW.out.drewN q9) (by decide) (by omega)).mono ?_
  rintro e w10 ⟨rfl, q10, rfl⟩
  rw [show decide (want = want) = true from by decide]
  go_wp2_with fail
  refine (Check_any (some ⟨w.heap.size, 0, none⟩) 2 2 [r1, r2] (W8.drewN (q9 + q10)) (HL.out.drewN (q9 + q10)) (by omega)).mono ?_
  rintro e w11 ⟨rfl, hb11⟩
  rw [aw2]
  go_wp2_with fail
  go_ret
  exact ⟨rfl, (bdN HB.out (q9 + q10)).trans (hb11.mono HB.out.size)⟩
end Go.Proofs.YtiefdlfninhbgaaGreatDoor
