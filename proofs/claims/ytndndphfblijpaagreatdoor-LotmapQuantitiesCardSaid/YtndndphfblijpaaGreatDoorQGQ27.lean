/- Merged texts: Awk, Pt, Id. -/
import Derived.Test.YtndndphfblijpaaGreatDoorQGQ26
import Derived.Test.YtndndphfblijpaaGreatDoorQGQ12
import Derived.Deep.RegionHeld3
import Derived.Deep.DrawnRows
import Derived.Deep.DeepCutAuto
import Derived.Test.YtndndphfblijpaaGreatDoorQGQ10
import Derived.Test.YtndndphfblijpaaGreatDoorQGQ22
import Derived.Test.YtndndphfblijpaaGreatDoorQGQ17
/- Contract of the statements' awake. -/
namespace Go.Proofs.YtndndphfblijpaaGreatDoor
open Go.RowKit Go.Shelf

theorem m0_sz : m0.Sz 5000 := ⟨by decide, by decide, by decide, ⟨by decide, by decide⟩, ⟨by decide, by decide⟩, ⟨by decide, by decide⟩, by decide, by decide⟩
theorem l0_sz : ∀ y ∈ l0, y.Sz 50000 := by
  intro y hy
  unfold l0 at hy
  simp only [List.mem_cons, List.mem_nil_iff, or_false] at hy
  rcases hy with rfl | rfl <;> exact ⟨by decide, by decide, by decide, by decide, by decide, by decide, by decide, by decide, by decide⟩
theorem MpV_m0 : MpV m0 = .agg #[.string ⟨#[120]⟩, .int .i64 9, .string ⟨#[97, 98, 99]⟩, .string ⟨#[100, 101, 102]⟩, .string ⟨#[49]⟩, .string ⟨#[50]⟩, .string ⟨#[49]⟩, .string ⟨#[]⟩, .string ⟨#[57]⟩, .string ⟨#[]⟩, .bool false] := rfl
set_option maxRecDepth 100000 in
set_option maxHeartbeats 4000000 in
theorem lwAwake_any (w : World) (hp : Env w) : Calls Tryz.prog 7 #[] w fun e w' => e = .returned (.bool true) ∧ Below w.heap.size w w' := by
  have hls : Lots (w.alloc (.cells #[.string ⟨#[97, 47, 49]⟩, .string ⟨#[97, 98, 99]⟩, .int .i64 1, .int .i64 2, .string ⟨#[49, 48]⟩, .string ⟨#[49, 48, 48]⟩, .string ⟨#[]⟩, .string ⟨#[98, 47, 49]⟩, .string ⟨#[97, 98, 99]⟩, .int .i64 3, .int .i64 3, .string ⟨#[53]⟩, .string ⟨#[56, 48]⟩, .string ⟨#[]⟩] 64)) (w.alloc (.cells #[.string ⟨#[97, 47, 49]⟩, .string ⟨#[97, 98, 99]⟩, .int .i64 1, .int .i64 2, .string ⟨#[49, 48]⟩, .string ⟨#[49, 48, 48]⟩, .string ⟨#[]⟩, .string ⟨#[98, 47, 49]⟩, .string ⟨#[97, 98, 99]⟩, .int .i64 3, .int .i64 3, .string ⟨#[53]⟩, .string ⟨#[56, 48]⟩, .string ⟨#[]⟩] 64)).heap.size (some ⟨w.heap.size, 0, none⟩) 2 l0 :=
    (Sl.lit (enc := L7) (k := 7) w #[.string ⟨#[97, 47, 49]⟩, .string ⟨#[97, 98, 99]⟩, .int .i64 1, .int .i64 2, .string ⟨#[49, 48]⟩, .string ⟨#[49, 48, 48]⟩, .string ⟨#[]⟩, .string ⟨#[98, 47, 49]⟩, .string ⟨#[97, 98, 99]⟩, .int .i64 3, .int .i64 3, .string ⟨#[53]⟩, .string ⟨#[56, 48]⟩, .string ⟨#[]⟩] 64 l0 rfl L7_len).more (by simp)
  have hbA : Below w.heap.size w (w.alloc (.cells #[.string ⟨#[97, 47, 49]⟩, .string ⟨#[97, 98, 99]⟩, .int .i64 1, .int .i64 2, .string ⟨#[49, 48]⟩, .string ⟨#[49, 48, 48]⟩, .string ⟨#[]⟩, .string ⟨#[98, 47, 49]⟩, .string ⟨#[97, 98, 99]⟩, .int .i64 3, .int .i64 3, .string ⟨#[53]⟩, .string ⟨#[56, 48]⟩, .string ⟨#[]⟩] 64)) := (Below.refl _ _).alloc (Nat.le_refl _) _
  have HMP := Lib.hid (map_any (some ⟨w.heap.size, 0, none⟩) 2 2 l0 m0 (w.alloc (.cells #[.string ⟨#[97, 47, 49]⟩, .string ⟨#[97, 98, 99]⟩, .int .i64 1, .int .i64 2, .string ⟨#[49, 48]⟩, .string ⟨#[49, 48, 48]⟩, .string ⟨#[]⟩, .string ⟨#[98, 47, 49]⟩, .string ⟨#[97, 98, 99]⟩, .int .i64 3, .int .i64 3, .string ⟨#[53]⟩, .string ⟨#[56, 48]⟩, .string ⟨#[]⟩] 64)) 10 (hp.here hbA) hls (.inr ⟨_, rfl⟩) (by decide) l0_sz (.inl m0_sz) (by decide) (by decide) (by decide) (by decide) ⟨by decide, by decide⟩ ⟨by decide, by decide⟩ ⟨by decide, by decide⟩)
  rw [aw_map, MpV_m0] at HMP
  have HB := Lib.hid hbA
  have HP := Lib.hid hp
  clear hls hbA hp
  go_enter Tryz.func7, Tryz.ntmps7
  go_wp2_with fail
  generalize w.alloc (.cells #[.string ⟨#[97, 47, 49]⟩, .string ⟨#[97, 98, 99]⟩, .int .i64 1, .int .i64 2, .string ⟨#[49, 48]⟩, .string ⟨#[49, 48, 48]⟩, .string ⟨#[]⟩, .string ⟨#[98, 47, 49]⟩, .string ⟨#[97, 98, 99]⟩, .int .i64 3, .int .i64 3, .string ⟨#[53]⟩, .string ⟨#[56, 48]⟩, .string ⟨#[]⟩] 64) = W0 at *
  refine HMP.out.mono ?_
  rintro e w1 ⟨A1, c1, Ag, cg, As, cs, rfl, oL, oG, oS, hb1⟩
  have HL1 := Lib.hid oL
  have hg0 : g0.length = 2 := rfl
  have hr0 : r0.length = 2 := rfl
  obtain ⟨gb, go, x, hA, _, hx, x0, x1, x2, x3, x4, x5, x6, x7, x8, x9⟩ := (oG.sl G10_len).gain (i := 0) (by decide)
  obtain ⟨gb', go', y, hA', _, hy, y0, y1, y2, y3, y4, y5, y6, y7, y8, y9⟩ := (oG.sl G10_len).gain (i := 1) (by decide)
  have ex : x = ⟨[120], [97, 47, 49], [100, 101, 102], 1, 9, [], [51], [55], [], []⟩ := by
    have h : g0[0]? = some ⟨[120], [97, 47, 49], [100, 101, 102], 1, 9, [], [51], [55], [], []⟩ := rfl
    exact Option.some.inj (hx.symm.trans h)
  have ey : y = ⟨[120], [98, 47, 49], [100, 101, 102], 3, 9, [], [49], [53], [], []⟩ := by
    have h : g0[1]? = some ⟨[120], [98, 47, 49], [100, 101, 102], 3, 9, [], [49], [53], [], []⟩ := rfl
    exact Option.some.inj (hy.symm.trans h)
  have hab : gb' = gb ∧ go' = go := by
    rw [hA] at hA'
    injection hA' with h
    injection h with h1 h2
    exact ⟨h1.symm, h2.symm⟩
  obtain ⟨rfl, rfl⟩ := hab
  subst ex; subst ey; subst hA
  have hgl : gb' < w1.heap.size := World.block_lt_of_cell? _ _ x6
  have HGX := Lib.hid (show ∀ X, Below w1.heap.size w1 X → X.cell? ⟨gb', go' + 6, none⟩ = some (.string ⟨#[51]⟩) ∧ X.cell? ⟨gb', go' + 7, none⟩ = some (.string ⟨#[55]⟩) ∧ X.cell? ⟨gb', go' + 10 + 6, none⟩ = some (.string ⟨#[49]⟩) ∧ X.cell? ⟨gb', go' + 10 + 7, none⟩ = some (.string ⟨#[53]⟩) from fun X hX =>
    ⟨(hX.cell (p := ⟨gb', go' + 6, none⟩) hgl).trans x6, (hX.cell (p := ⟨gb', go' + 7, none⟩) hgl).trans x7, (hX.cell (p := ⟨gb', go' + 10 + 6, none⟩) hgl).trans y6, (hX.cell (p := ⟨gb', go' + 10 + 7, none⟩) hgl).trans y7⟩)
  clear x0 x1 x2 x3 x4 x5 x6 x7 x8 x9 y0 y1 y2 y3 y4 y5 y6 y7 y8 y9 hx hy hA' hgl
  dsimp only
  rw [hr0, hg0]
  have hb2 : Below w1.heap.size w1 (((w1.alloc (.cells #[.slice A1 2 c1, .slice (some ⟨gb', go', none⟩) 2 cg, .slice As (stpL m0 P0 l0).length cs, .slice none 0 0] 35)).alloc (.cells #[.string ⟨#[120, 47, 49]⟩, .string ⟨#[100, 101, 102]⟩, .int .i64 1, .int .i64 2, .string ⟨#[53]⟩, .string ⟨#[57, 51]⟩, .string ⟨#[53]⟩, .string ⟨#[120, 47, 50]⟩, .string ⟨#[100, 101, 102]⟩, .int .i64 3, .int .i64 3, .string ⟨#[50]⟩, .string ⟨#[55, 53]⟩, .string ⟨#[50]⟩] 64))) := ((Below.refl _ _).alloc (Nat.le_refl _) _).alloc (by simp) _
  have hrs : Lots (((w1.alloc (.cells #[.slice A1 2 c1, .slice (some ⟨gb', go', none⟩) 2 cg, .slice As (stpL m0 P0 l0).length cs, .slice none 0 0] 35)).alloc (.cells #[.string ⟨#[120, 47, 49]⟩, .string ⟨#[100, 101, 102]⟩, .int .i64 1, .int .i64 2, .string ⟨#[53]⟩, .string ⟨#[57, 51]⟩, .string ⟨#[53]⟩, .string ⟨#[120, 47, 50]⟩, .string ⟨#[100, 101, 102]⟩, .int .i64 3, .int .i64 3, .string ⟨#[50]⟩, .string ⟨#[55, 53]⟩, .string ⟨#[50]⟩] 64))) (((w1.alloc (.cells #[.slice A1 2 c1, .slice (some ⟨gb', go', none⟩) 2 cg, .slice As (stpL m0 P0 l0).length cs, .slice none 0 0] 35)).alloc (.cells #[.string ⟨#[120, 47, 49]⟩, .string ⟨#[100, 101, 102]⟩, .int .i64 1, .int .i64 2, .string ⟨#[53]⟩, .string ⟨#[57, 51]⟩, .string ⟨#[53]⟩, .string ⟨#[120, 47, 50]⟩, .string ⟨#[100, 101, 102]⟩, .int .i64 3, .int .i64 3, .string ⟨#[50]⟩, .string ⟨#[55, 53]⟩, .string ⟨#[50]⟩] 64))).heap.size (some ⟨w1.heap.size + 1, 0, none⟩) 2 r0 := by
    have h := (Sl.lit (enc := L7) (k := 7) (w1.alloc (.cells #[.slice A1 2 c1, .slice (some ⟨gb', go', none⟩) 2 cg, .slice As (stpL m0 P0 l0).length cs, .slice none 0 0] 35)) #[.string ⟨#[120, 47, 49]⟩, .string ⟨#[100, 101, 102]⟩, .int .i64 1, .int .i64 2, .string ⟨#[53]⟩, .string ⟨#[57, 51]⟩, .string ⟨#[53]⟩, .string ⟨#[120, 47, 50]⟩, .string ⟨#[100, 101, 102]⟩, .int .i64 3, .int .i64 3, .string ⟨#[50]⟩, .string ⟨#[55, 53]⟩, .string ⟨#[50]⟩] 64 r0 rfl L7_len).more (B' := (((w1.alloc (.cells #[.slice A1 2 c1, .slice (some ⟨gb', go', none⟩) 2 cg, .slice As (stpL m0 P0 l0).length cs, .slice none 0 0] 35)).alloc (.cells #[.string ⟨#[120, 47, 49]⟩, .string ⟨#[100, 101, 102]⟩, .int .i64 1, .int .i64 2, .string ⟨#[53]⟩, .string ⟨#[57, 51]⟩, .string ⟨#[53]⟩, .string ⟨#[120, 47, 50]⟩, .string ⟨#[100, 101, 102]⟩, .int .i64 3, .int .i64 3, .string ⟨#[50]⟩, .string ⟨#[55, 53]⟩, .string ⟨#[50]⟩] 64))).heap.size) (by simp)
    rw [show (w1.alloc (.cells #[.slice A1 2 c1, .slice (some ⟨gb', go', none⟩) 2 cg, .slice As (stpL m0 P0 l0).length cs, .slice none 0 0] 35)).heap.size = w1.heap.size + 1 by simp] at h
    exact h
  have hEQ := Lib.hid (eqLots_same A1 (some ⟨w1.heap.size + 1, 0, none⟩) 2 c1 2 r0 (((w1.alloc (.cells #[.slice A1 2 c1, .slice (some ⟨gb', go', none⟩) 2 cg, .slice As (stpL m0 P0 l0).length cs, .slice none 0 0] 35)).alloc (.cells #[.string ⟨#[120, 47, 49]⟩, .string ⟨#[100, 101, 102]⟩, .int .i64 1, .int .i64 2, .string ⟨#[53]⟩, .string ⟨#[57, 51]⟩, .string ⟨#[53]⟩, .string ⟨#[120, 47, 50]⟩, .string ⟨#[100, 101, 102]⟩, .int .i64 3, .int .i64 3, .string ⟨#[50]⟩, .string ⟨#[55, 53]⟩, .string ⟨#[50]⟩] 64))) (((HL1.out.below hb2).sl L7_len)) hrs (by decide))
  have HRB := Lib.hid (show BlkB (((w1.alloc (.cells #[.slice A1 2 c1, .slice (some ⟨gb', go', none⟩) 2 cg, .slice As (stpL m0 P0 l0).length cs, .slice none 0 0] 35)).alloc (.cells #[.string ⟨#[120, 47, 49]⟩, .string ⟨#[100, 101, 102]⟩, .int .i64 1, .int .i64 2, .string ⟨#[53]⟩, .string ⟨#[57, 51]⟩, .string ⟨#[53]⟩, .string ⟨#[120, 47, 50]⟩, .string ⟨#[100, 101, 102]⟩, .int .i64 3, .int .i64 3, .string ⟨#[50]⟩, .string ⟨#[55, 53]⟩, .string ⟨#[50]⟩] 64))) w1.heap.size #[.slice A1 2 c1, .slice (some ⟨gb', go', none⟩) 2 cg, .slice As (stpL m0 P0 l0).length cs, .slice none 0 0] 35 from BlkB.alloc (heap_alloc_new w1 _) _)
  have HB2 := Lib.hid hb2
  clear hb2 hrs oL oG oS
  go_wp2_with fail
  refine hEQ.out.mono ?_
  rintro e w3 ⟨rfl, hb3⟩
  obtain ⟨k0, k1, k2, k3⟩ := HGX.out w3 (HB2.out.trans (hb3.mono HB2.out.size))
  have HR3 := Lib.hid (HRB.out.here hb3)
  have r0_ := HR3.out.cell 0 rfl; have r1_ := HR3.out.cell 1 rfl
  have HBW := Lib.hid (HB.out.trans ((hb1.trans (HB2.out.trans (hb3.mono HB2.out.size) |>.mono hb1.size)).mono HB.out.size))
  clear hb3 hb1
  go_wp2_with fail
  first | go_ret | skip
  exact ⟨rfl, HBW.out⟩
end Go.Proofs.YtndndphfblijpaaGreatDoor
/- Contract of lotmap.Parts, at a quantity and a ratio that are valid. -/
namespace Go.Proofs.YtndndphfblijpaaGreatDoor
open Go.RowKit Go.Shelf
attribute [local go_sem ↓] Go.wp_at_zero Go.wp_at_succ

def PartsPost (q : Rat) (w : World) (e : Ending) (w' : World) : Prop := e = .returned (.tuple #[S (txtL (flo q)), FrV (frOf (q - ((flo q : Int) : Rat))), .int .i64 0]) ∧ Below w.heap.size w w'
set_option maxRecDepth 20000 in
set_option maxHeartbeats 4000000 in
theorem parts_ok (q : List UInt8) (f : Fr) (w : World) (hp : Env w) (hq : q = txtL (val q)) (hql : q.length ≤ 200) (hf : f.ok) (hfz : f.Sz 200) (h0 : 0 ≤ val q) (h1 : 0 < f.rat) :
    Calls Tryz.prog 19 #[S q, FrV f] w (PartsPost (((val q : Int) : Rat) * f.rat) w) := by
  have HPO := Lib.hid (show PartsPost (((val q : Int) : Rat) * f.rat) w = fun e w' => e = .returned (.tuple #[S (txtL (flo (((val q : Int) : Rat) * f.rat))), FrV (frOf (((val q : Int) : Rat) * f.rat - ((flo (((val q : Int) : Rat) * f.rat) : Int) : Rat))), .int .i64 0]) ∧ Below w.heap.size w w' from rfl)
  generalize PartsPost (((val q : Int) : Rat) * f.rat) w = post at *
  have HIC := Lib.hid (iCheck_any q (by omega))
  rw [if_pos hq] at HIC
  have HFC := Lib.hid (fun W hW => fCheck_any f W hW (hfz.more (by omega)))
  rw [show chkF f = 0 from if_pos hf] at HFC
  have HCM := Lib.hid (fun W => Compare_any q [] W (by omega) (by simp))
  rw [val_nil, Int.sub_zero] at HCM
  have hs0 : decide (sgnI (val q) < 0) = false := by
    unfold sgnI
    rw [if_neg (by omega)]
    split <;> decide
  have HSG := Lib.hid (mSign_any f (hfz.more (by omega)))
  have hs1 : decide (cmpR f.rat 0 ≤ 0) = false := by
    unfold cmpR
    rw [if_neg (Rat.not_lt.2 (Rat.le_of_lt h1)), if_pos h1]
    decide
  have hqv := val_lt' hql
  have HOF := Lib.hid (fun W hW => fOf_any q W hW (by omega))
  have hz1 : (frOf ((val q : Int) : Rat)).Sz 201 := by rw [frOf_int]; exact ⟨txtL_length hqv, by simp⟩
  have HMU := Lib.hid (fun W hW => fMul_any (frOf ((val q : Int) : Rat)) f W hW (hz1.more (by omega)) (hfz.more (by omega)))
  rw [rat_frOf] at HMU
  have hz2 : (frOf (((val q : Int) : Rat) * f.rat)).Sz 1000 := by
    have := frOf_sz (rb_mul (hz1.more (show 201 ≤ 201 by omega)) (hfz.more (show 200 ≤ 201 by omega)) (by omega))
    rw [rat_frOf] at this
    exact this.more (by omega)
  have HWH := Lib.hid (mWhole_any (frOf (((val q : Int) : Rat) * f.rat)) (hz2.more (by omega)))
  rw [rat_frOf] at HWH
  have H := Lib.hid (show Kp w [(w.heap.size + 1, #[.string ⟨#[]⟩, .string ⟨#[]⟩], 26), (w.heap.size, #[.string ⟨f.n.toArray⟩, .string ⟨f.d.toArray⟩], 26)] ((w.alloc (.cells #[.string ⟨f.n.toArray⟩, .string ⟨f.d.toArray⟩] 26)).alloc (.cells #[.string ⟨#[]⟩, .string ⟨#[]⟩] 26)) from ((Kp.start hp).new w.heap.size rfl _ _).new (w.heap.size + 1) (by simp) _ _)
  generalize cmpR f.rat 0 = z1 at *
  generalize sgnI (val q) = z0 at *
  generalize frOf (((val q : Int) : Rat) * f.rat - ((flo (((val q : Int) : Rat) * f.rat) : Int) : Rat)) = pt at *
  generalize txtL (flo (((val q : Int) : Rat) * f.rat)) = tn at *
  generalize frOf (((val q : Int) : Rat) * f.rat) = fm at *
  generalize frOf ((val q : Int) : Rat) = fq at *
  have hs0i : ¬ z0 < 0 := by simpa using hs0
  have hs1i : ¬ z1 ≤ 0 := by simpa using hs1
  clear hp hq hql hf hfz h0 h1 hqv hz1 hz2
  unfold FrV S at *
  go_enter Tryz.func19, Tryz.ntmps19
  go_wp2_with fail
  generalize ((w.alloc (.cells #[.string ⟨f.n.toArray⟩, .string ⟨f.d.toArray⟩] 26)).alloc (.cells #[.string ⟨#[]⟩, .string ⟨#[]⟩] 26)) = W0 at *
  refine (HIC.out _ H.out.pw).mono ?_
  rintro e w1 ⟨rfl, hb1⟩
  have H1 := Lib.hid (H.out.here hb1)
  clear hb1 H
  have x0 := H1.out.c 1 0 rfl rfl; have x1 := H1.out.c 1 1 rfl rfl
  go_wp2_with fail
  refine (HFC.out _ H1.out.po).mono ?_
  rintro e w2 ⟨rfl, hb2⟩
  have H2 := Lib.hid (H1.out.here hb2)
  clear hb2 H1 x0 x1
  go_wp2_with fail
  refine (HCM.out _).mono ?_
  rintro e w3 ⟨rfl, hb3⟩
  have H3 := Lib.hid (H2.out.here hb3)
  clear hb3 H2
  have x0 := H3.out.c 1 0 rfl rfl; have x1 := H3.out.c 1 1 rfl rfl
  go_wp2_with fail
  refine (HSG.out _ H3.out.pw).mono ?_
  rintro e w4 ⟨rfl, hb4⟩
  have H4 := Lib.hid (H3.out.here hb4)
  clear hb4 H3 x0 x1
  go_upto_region 5 with (fail)
  have HRT := Lib.hid (show ∀ X bs i, Kp w bs X → bs[i]? = some (w.heap.size, #[.string ⟨f.n.toArray⟩, .string ⟨f.d.toArray⟩], 26) → X.cell? ⟨w.heap.size, 0, none⟩ = some (.string ⟨f.n.toArray⟩) ∧ X.cell? ⟨w.heap.size, 1, none⟩ = some (.string ⟨f.d.toArray⟩) from fun X bs i h hb => ⟨h.c i 0 hb rfl, h.c i 1 hb rfl⟩)
  have HPA := Lib.hid ((H4.out.new w4.heap.size rfl #[.string ⟨#[]⟩, .string ⟨#[]⟩] 26).drew)
  go_cut [7, 8] (fun s p wc => s = .string ⟨tn.toArray⟩ ∧ ∃ P8, p = .pointer (some ⟨P8, 0, none⟩) ∧ Hid (Kp w ((P8, #[.string ⟨pt.n.toArray⟩, .string ⟨pt.d.toArray⟩], 26) :: [(w.heap.size + 1, #[.string ⟨#[]⟩, .string ⟨#[]⟩], 26), (w.heap.size, #[.string ⟨f.n.toArray⟩, .string ⟨f.d.toArray⟩], 26)]) wc))
  case first =>
    obtain ⟨s00, s01⟩ := HRT.out _ _ 1 H4.out rfl
    have s0a := HRT.out _ _ 2 HPA.out rfl
    go_region_held3 (fun X => X.cell? ⟨w.heap.size, 0, none⟩ = some (.string ⟨f.n.toArray⟩) ∧ X.cell? ⟨w.heap.size, 1, none⟩ = some (.string ⟨f.d.toArray⟩))
      (first
        | with_reducible exact s4
        | with_reducible exact s3a
        | with_reducible exact s3
        | with_reducible exact s2a
        | with_reducible exact s2
        | with_reducible exact s1a
        | with_reducible exact s1
        | with_reducible exact s0a
        | go_keep)
      (first
        | (go_at_call 23; first
            | (refine (HOF.out _ H4.out.drew.po).mono ?_; rintro e y1 ⟨rfl, hy⟩; try unfold FrV S
               have g1 := H4.out.drew.here hy
               have s1 := HRT.out _ _ 1 g1 rfl
               have g1a := g1.new y1.heap.size rfl #[.string ⟨#[]⟩, .string ⟨#[]⟩] 26
               have s1a := HRT.out _ _ 2 g1a rfl)
            | (refine (HOF.out _ HPA.out.po).mono ?_; rintro e y1 ⟨rfl, hy⟩; try unfold FrV S
               have g1 := HPA.out.here hy
               have s1 := HRT.out _ _ 2 g1 rfl))
        | (go_at_call 25; first
            | (refine (HMU.out _ g1.po).mono ?_; rintro e y2 ⟨rfl, hy⟩; try unfold FrV S
               have g2 := g1.here hy)
            | (refine (HMU.out _ g1a.po).mono ?_; rintro e y2 ⟨rfl, hy⟩; try unfold FrV S
               have g2 := g1a.here hy)
           first
            | (have s2 := HRT.out _ _ 1 g2 rfl
               have g2a := g2.new y2.heap.size rfl #[.string ⟨#[]⟩, .string ⟨#[]⟩] 26
               have s2a := HRT.out _ _ 2 g2a rfl)
            | (have s2 := HRT.out _ _ 2 g2 rfl))
        | (go_at_call 55; first
            | (refine (HWH.out _ g2.pw).mono ?_; rintro e y3 ⟨rfl, hy⟩; try unfold FrV S
               have g3 := g2.here hy)
            | (refine (HWH.out _ g2a.pw).mono ?_; rintro e y3 ⟨rfl, hy⟩; try unfold FrV S
               have g3 := g2a.here hy)
           first
            | (have s3 := HRT.out _ _ 1 g3 rfl
               have g3a := g3.new y3.heap.size rfl #[.string ⟨#[]⟩, .string ⟨#[]⟩] 26
               have s3a := HRT.out _ _ 2 g3a rfl
               have g4 := (g3a.set 0 0 rfl (.string ⟨pt.n.toArray⟩)).set 0 1 rfl (.string ⟨pt.d.toArray⟩)
               have s4 := HRT.out _ _ 2 g4 rfl)
            | (have s3 := HRT.out _ _ 2 g3 rfl
               have n0 := g3.c 0 0 rfl rfl; have n1 := g3.c 0 1 rfl rfl
               have f0 := g3.f 0 0 rfl; have f1 := g3.f 0 1 rfl
               have g4 := (g3.set 0 0 rfl (.string ⟨pt.n.toArray⟩)).set 0 1 rfl (.string ⟨pt.d.toArray⟩)
               have s4 := HRT.out _ _ 2 g4 rfl)))
    all_goals
      go_wp2_with fail
      go_meet
      first
        | exact ⟨rfl, _, rfl, g4⟩
        | exact ⟨rfl, _, rfl, g3.new _ rfl _ _⟩
  case rest =>
  obtain ⟨rfl, P8, rfl, H5⟩ := hcut
  clear H4 HPA HRT
  have k0 := H5.out.c 0 0 rfl rfl; have k1 := H5.out.c 0 1 rfl rfl
  have n0 := H5.out.c 1 0 rfl rfl; have n1 := H5.out.c 1 1 rfl rfl
  have f0 := H5.out.f 1 0 rfl; have f1 := H5.out.f 1 1 rfl
  have HE := Lib.hid (((H5.out.set 1 0 rfl (.string ⟨pt.n.toArray⟩)).set 1 1 rfl (.string ⟨pt.d.toArray⟩)).drew)
  obtain ⟨r0, r1⟩ : _ ∧ _ := ⟨HE.out.c 0 0 rfl rfl, HE.out.c 0 1 rfl rfl⟩
  have m0 := HE.out.c 1 0 rfl rfl; have m1 := HE.out.c 1 1 rfl rfl
  go_upto_region 6 with (fail)
  go_region_held3 (fun X => X.cell? ⟨P8, 0, none⟩ = some (.string ⟨pt.n.toArray⟩) ∧ X.cell? ⟨P8, 1, none⟩ = some (.string ⟨pt.d.toArray⟩))
    (first
      | with_reducible exact ⟨r0, r1⟩
      | go_keep)
    (fail)
  all_goals
    go_wp2_with fail
    refine bodyPost_ret (v := .tuple #[.string ⟨tn.toArray⟩, .agg #[.string ⟨pt.n.toArray⟩, .string ⟨pt.d.toArray⟩], .int .i64 0]) (by simp [results, Tryz.results19, go_sem, m0, m1]) rfl ?_
    rw [HPO.out]
    exact ⟨rfl, HE.out.bl⟩
end Go.Proofs.YtndndphfblijpaaGreatDoor
/- Contracts of fraction.Neg and of allocate.Ideal at valid input. -/
namespace Go.Proofs.YtndndphfblijpaaGreatDoor
open Go.RowKit Go.Shelf

set_option maxRecDepth 20000 in
theorem fNeg_any (f : Fr) (hf : f.Sz 20000) : Gives 65 #[FrV f] (FrV (frOf (-f.rat))) := by
  intro w hp
  have H := Lib.hid (((Kp.start hp).new w.heap.size rfl #[.string ⟨f.n.toArray⟩, .string ⟨f.d.toArray⟩] 26).new (w.heap.size + 1) (by simp) #[.string ⟨#[]⟩, .string ⟨#[]⟩] 26)
  have HPA := Lib.hid (fun W => parts_any f W (by have := hf.2; omega))
  have HNG := Lib.hid (fun W hp => Neg_any f.n W hp (by have := hf.1; omega))
  have hnl : (txtL (-val f.n)).length ≤ 20001 := by
    obtain ⟨K, hK⟩ : ∃ K : Nat, K = 20000 := ⟨_, rfl⟩
    have h := hf.1
    rw [← hK] at h
    have := txtL_length (n := -val f.n) (L := K) (by rw [Int.natAbs_neg]; exact val_lt' h)
    omega
  have HMD := Lib.hid (fun W hp => made_any (txtL (-val f.n)) f.dt W hp (by omega) (by have := Fr.dt_len hf.2 (by omega); omega) (by rw [Fr.val_dt]; exact f.dv_ne))
  rw [Fr.val_dt, val_txtL, show Rat.divInt (-val f.n) f.dv = -f.rat from (Rat.neg_divInt _ _).symm] at HMD
  generalize frOf (-f.rat) = res at *
  generalize txtL (-val f.n) = nn at *
  have x0 := H.out.c 1 0 rfl rfl; have x1 := H.out.c 1 1 rfl rfl
  clear hf hp hnl
  unfold FrV at *
  unfold S at *
  go_enter Tryz.func65, Tryz.ntmps65
  go_wp2_with fail
  generalize ((w.alloc (.cells #[.string ⟨f.n.toArray⟩, .string ⟨f.d.toArray⟩] 26)).alloc (.cells #[.string ⟨#[]⟩, .string ⟨#[]⟩] 26)) = W at *
  refine (HPA.out _).mono ?_
  rintro e w1 ⟨rfl, hb⟩
  try unfold S
  replace H := Lib.hid (H.out.here hb)
  clear hb x0 x1
  go_wp2_with fail
  refine (HNG.out _ H.out.po).mono ?_
  rintro e w2 ⟨rfl, hb⟩
  try unfold S
  replace H := Lib.hid (H.out.here hb)
  clear hb
  go_wp2_with fail
  refine (HMD.out _ H.out.po).mono ?_
  rintro e w3 ⟨rfl, hb⟩
  try unfold FrV S
  replace H := Lib.hid (H.out.here hb)
  clear hb
  have c0 := H.out.c 0 0 rfl rfl; have c1 := H.out.c 0 1 rfl rfl
  have f0 := H.out.f 0 0 rfl; have f1 := H.out.f 0 1 rfl
  go_wp2_with fail
  refine bodyPost_ret (v := .agg #[.string ⟨res.n.toArray⟩, .string ⟨res.d.toArray⟩]) (by simp [results, Tryz.results65, go_sem, c0, c1]) rfl ?_
  exact ⟨rfl, ((H.out.set 0 0 rfl _).set 0 1 rfl _).bl⟩

theorem own_geF {W : World} {base g : Nat} {u : Value} {xs : List Fr} (h : Own F2 2 26 W base u xs) (hg : u.ownBlock = some g) : base ≤ g := by
  obtain ⟨A, c, rfl, h1, h2, h3, h4⟩ := h.form
  exact (h4 g hg).2.1
theorem F2_cell (x : Fr) : ∀ u ∈ F2 x, u.oneCell' = true := by simp [F2, S, Value.oneCell']
theorem elemFrs : ElemT Tryz.prog 88 26 2 32 := elemT_of Tryz.underlying88 (by kernel_rfl) (by decide) (by decide)
theorem frs1 {W : World} {q : Nat} {f : Fr} {T : TypeId} (h : BlkB W q #[.string ⟨f.n.toArray⟩, .string ⟨f.d.toArray⟩] T) : Frs W W.heap.size (some ⟨q, 0, none⟩) 1 [f] := by
  refine ⟨rfl, fun _ => ⟨q, 0, rfl, h.lt, fun j z hj k u hk => ?_⟩⟩
  cases j with
  | zero =>
    simp only [List.getElem?_cons_zero, Option.some.injEq] at hj
    subst hj
    rw [Nat.zero_mul, Nat.zero_add]
    exact h.cell k (by simpa [F2, S] using hk)
  | succ j => simp at hj
/-- The exact parts. -/
def idl (t : List UInt8) (ws : List (List UInt8)) : List Fr := ws.map fun x => frOf (Rat.divInt (val t * val x) (sumV ws))
def IdPost (t : List UInt8) (ws : List (List UInt8)) (n : Nat) (w : World) (e : Ending) (w' : World) : Prop :=
  ∃ A' c', e = .returned (.tuple #[.slice A' n c', .int .i64 0]) ∧ Own F2 2 26 w' w.heap.size (.slice A' n c') (idl t ws) ∧ Below w.heap.size w w'
set_option maxRecDepth 20000 in
set_option maxHeartbeats 2000000 in
theorem ideal_ok (t : List UInt8) (A : Option Addr) (n c : Nat) (ws : List (List UInt8)) (w : World) (hp : Env w) (hs : Strs w w.heap.size A n ws) (ht : t.length ≤ 1000) (hl : ∀ x ∈ ws, x.length ≤ 1000) (hn : n ≤ 1000) (hok : splitC t ws = 0) :
    Calls Tryz.prog 61 #[S t, .slice A n c] w (IdPost t ws n w) := by
  have HPO := Lib.hid (show IdPost t ws n w = fun e w' => ∃ A' c', e = .returned (.tuple #[.slice A' n c', .int .i64 0]) ∧ Own F2 2 26 w' w.heap.size (.slice A' n c') (idl t ws) ∧ Below w.heap.size w w' from rfl)
  generalize IdPost t ws n w = post at *
  have hS : sumV ws ≠ 0 := by
    unfold splitC at hok
    intro h
    rw [if_pos h] at hok
    revert hok
    repeat' split
    all_goals decide
  have hwn := hs.1
  have hsl : (txtL (sumV ws)).length ≤ 1005 := by
    have h := sumV_take_len (ws := ws) (L := 1000) hl (by omega) ws.length
    rw [List.take_length] at h
    omega
  have HCK := Lib.hid (fun W (hb : Below w.heap.size w W) => aCheck_any t A n c ws W (hp.here hb) (hs.here hb) (by omega) (fun x hx => by have := hl x hx; omega) (by omega))
  rw [hok] at HCK
  have HWH := Lib.hid (fun W (hb : Below w.heap.size w W) => aWhole_any A n c ws W (hp.here hb) (hs.here hb) (fun x hx => by have := hl x hx; omega) (by omega))
  have HMU := Lib.hid (fun x (hx : x ∈ ws) W hW => Mul_any t x W hW (by omega) (by have := hl x hx; omega))
  have HNW := Lib.hid (fun x (hx : x ∈ ws) W hW => new_any ⟨txtL (val t * val x), txtL (sumV ws)⟩ ⟨by
    have := mul_len (L := 1000) ht (hl x hx)
    show (txtL _).length ≤ _
    omega, by show (txtL _).length ≤ _; omega⟩ W hW)
  have HNL := Lib.hid (show ∀ x, nwL ⟨txtL (val t * val x), txtL (sumV ws)⟩ = (frOf (Rat.divInt (val t * val x) (sumV ws)), 0) from fun x => by
    unfold nwL
    rw [if_neg (by show val (txtL _) ≠ 0; rw [val_txtL]; exact hS)]
    simp only [val_txtL])
  simp only [HNL.out] at HNW
  obtain ⟨g, hg⟩ : ∃ g : List UInt8 → Fr, g = fun x => frOf (Rat.divInt (val t * val x) (sumV ws)) := ⟨_, rfl⟩
  have HID := Lib.hid (show idl t ws = ws.map g from by rw [hg]; rfl)
  have HG := Lib.hid (fun x => show frOf (Rat.divInt (val t * val x) (sumV ws)) = g x by rw [hg])
  simp only [HG.out] at HNW
  generalize idl t ws = il at *
  generalize txtL (sumV ws) = ts at *
  have HP := Lib.hid hp; have HS := Lib.hid hs; have HN := Lib.hid (show n = ws.length from hwn); have HB0 := Lib.hid (Below.refl w.heap.size w); have HN1 := Lib.hid hn
  clear hp hs ht hl hn hok hS hwn hsl hg HNL HG
  unfold CmpIPost at HCK
  unfold StrPost S at HWH HMU
  unfold FrV S at HNW
  unfold S
  go_enter Tryz.func61, Tryz.ntmps61
  go_wp2_with fail
  refine (HCK.out _ HB0.out).mono ?_
  rintro e w1 ⟨rfl, hb⟩
  replace HB0 := Lib.hid hb
  clear hb
  go_wp2_with fail
  refine (HWH.out _ HB0.out).mono ?_
  rintro e w2 ⟨rfl, hb⟩
  have HB2 := Lib.hid (HB0.out.trans (hb.mono HB0.out.size))
  clear hb HB0
  go_wp2_with fail
  go_loopw [8, 10, 11, 12, 23] (fun s _ _ _ j wr => ∃ (k : Nat) (A3 : Option Addr) (c3 : Nat), k ≤ n ∧ j = .int .i64 k ∧ s = .slice A3 k c3 ∧ Hid (Own F2 2 26 wr w.heap.size (.slice A3 k c3) ((ws.take k).map g)) ∧ Hid (Below w.heap.size w wr)) (fun _ _ _ _ j _ => n - (intOf j).toNat)
  case atStart => exact ⟨0, none, 0, Nat.zero_le _, rfl, rfl, Own.nil, HB2⟩
  case round =>
    clear HB2
    obtain ⟨k, A3, c3, hk, rfl, rfl, HOW, HBR⟩ := hrel
    by_cases hlt : k < n
    · obtain ⟨b, off, x, rfl, hb, hx, d0⟩ := (HS.out.below HBR.out).st hlt
      have hxm := List.mem_of_getElem? hx
      have HTK := Lib.hid (show (ws.take (k + 1)).map g = (ws.take k).map g ++ [g x] by
        obtain ⟨h1, h2⟩ := List.getElem?_eq_some_iff.1 hx
        rw [List.take_succ_eq_append_getElem h1, h2, List.map_append]
        rfl)
      have HM1 := Lib.hid (HMU.out x hxm)
      have HN2 := Lib.hid (HNW.out x hxm)
      have HKN := Lib.hid (show ((ws.take k).map g).length = k by rw [List.length_map, List.length_take]; have := HN.out; omega)
      generalize (ws.take k).map g = kl at *
      generalize txtL (val t * val x) = tm at *
      generalize g x = fx at *
      clear hx hxm hk
      have hk1 := HN1.out
      go_wp2_with fail
      refine (HM1.out _ (HP.out.here HBR.out).pow).mono ?_
      rintro e w3 ⟨rfl, hb3⟩
      have HB3 := Lib.hid (HBR.out.trans (hb3.mono HBR.out.size))
      have HO3 := Lib.hid (HOW.out.below hb3)
      clear hb3 d0
      go_wp2_with fail
      refine (HN2.out _ (HP.out.here HB3.out)).mono ?_
      rintro e w4 ⟨rfl, hb4⟩
      have HB4 := Lib.hid ((HB3.out.trans (hb4.mono HB3.out.size)).alloc (Nat.le_trans HB3.out.size hb4.size) (.cells #[.string ⟨fx.n.toArray⟩, .string ⟨fx.d.toArray⟩] 26))
      have HO4 := Lib.hid ((HO3.out.below hb4).alloc (.cells #[.string ⟨fx.n.toArray⟩, .string ⟨fx.d.toArray⟩] 26))
      have hbk : BlkB (w4.alloc (.cells #[.string ⟨fx.n.toArray⟩, .string ⟨fx.d.toArray⟩] 26)) w4.heap.size #[.string ⟨fx.n.toArray⟩, .string ⟨fx.d.toArray⟩] 26 := heap_alloc_new w4 _
      have k0 := hbk.cell 0 rfl; have k1 := hbk.cell 1 rfl
      clear hb4 hbk HB3 HO3
      go_upto_region 10 with (fail)
      generalize (w4.alloc (.cells #[.string ⟨fx.n.toArray⟩, .string ⟨fx.d.toArray⟩] 26)) = W4 at *
      have HA2 := Lib.hid (HB4.out.alloc HB4.out.size (.cells #[.string ⟨fx.n.toArray⟩, .string ⟨fx.d.toArray⟩] 26))
      have HO5 := Lib.hid (HO4.out.alloc (.cells #[.string ⟨fx.n.toArray⟩, .string ⟨fx.d.toArray⟩] 26))
      have HL1 := Lib.hid (frs1 (show BlkB (W4.alloc (.cells #[.string ⟨fx.n.toArray⟩, .string ⟨fx.d.toArray⟩] 26)) W4.heap.size #[.string ⟨fx.n.toArray⟩, .string ⟨fx.d.toArray⟩] 26 from heap_alloc_new W4 _))
      go_wp2_with (at_builtin; refine wpList_app _ rfl (.tmp 35) (.tmp 37) _ rfl elemFrs F2_len F2_cell (base := w.heap.size) (.slice A3 _ c3) kl rfl HO5.out _ _ 1 1 [fx] rfl HL1.out (by rw [HKN.out]; omega) HA2.out.size ?_
                   intro A4 c4 w6 ho4 hg4 _)
      go_roundw
      case rel =>
        rw [HKN.out] at ho4
        exact ⟨k + 1, A4, c4, by omega, by go_num, by rw [HKN.out], (show Own _ _ _ _ _ _ _ by rw [HTK.out]; exact ho4), below_grown HA2.out hg4 HA2.out.size (fun g hg => own_geF HO5.out hg)⟩
      case measure => simp [intOf]; omega
    · obtain rfl : k = n := by omega
      have HE := Lib.hid (show (ws.take k).map g = ws.map g by rw [List.take_of_length_le (by have := HN.out; omega)])
      go_wp2_with fail
      first | go_ret | skip
      rw [HPO.out, HID.out]
      rw [HE.out] at HOW
      exact ⟨A3, c3, rfl, HOW.out, HBR.out⟩
end Go.Proofs.YtndndphfblijpaaGreatDoor
