/- The reference's fractions: reduced, Canonical, Check, New, Neg. -/
import Derived.Test.YtaiikjgoofefgaaGreatDoorRF1qG1s
namespace Go.Proofs.YtaiikjgoofefgaaGreatDoor
open Go.RowKit Go.Shelf

theorem FrB.put2 {w : World} {p : Nat} {f : Fr} (h : FrB w p f) (g : Fr) : FrB ((w.setCell ⟨p, 0, none⟩ (.string ⟨g.n.toArray⟩)).setCell ⟨p, 1, none⟩ (.string ⟨g.d.toArray⟩)) p g := by
  unfold FrB at h ⊢
  rw [heap_setCell_same _ p 1 _ 24 _ (heap_setCell_same w p 0 _ 24 _ h)]
  rfl
theorem zRed_below {w W : World} {p : Nat} (h : Below w.heap.size w W) (hp : w.heap.size < p) (u v t : Value) : Below w.heap.size w (((W.setCell ⟨p, 1, none⟩ u).setCell ⟨w.heap.size, 0, none⟩ v).setCell ⟨w.heap.size, 1, none⟩ t) :=
  ((h.setCell (p := ⟨p, 1, none⟩) (Nat.le_of_lt hp) _).setCell (p := ⟨w.heap.size, 0, none⟩) (Nat.le_refl _) _).setCell (p := ⟨w.heap.size, 1, none⟩) (Nat.le_refl _) _
set_option maxRecDepth 20000 in
set_option maxHeartbeats 1000000 in
theorem zReduced_any (n d : List UInt8) (w : World) (hn : n.length ≤ 50000) (hd : d.length ≤ 50000) (hd0 : 0 < val d) :
    Calls Tryz.prog 37 #[S n, S d] w (FracPost (frOf (Rat.divInt (val n) (val d))) w) := by
  have HZ := Lib.hid (fun W => zZero_any n W (by omega))
  have HGC := Lib.hid (fun W => rGcd_any n d W (by omega) (by omega))
  have HGL := Lib.hid (gcd_len (val n) (d := d) (by omega))
  have HGP := Lib.hid (gcd_pos (val n) (val d) (by omega))
  have HR1 := Lib.hid (red_num (val n) (val d) hd0)
  have HR2 := Lib.hid (red_den (val n) (val d) hd0)
  have HQ0 := Lib.hid (show val n = 0 → FrV (frOf (Rat.divInt (val n) (val d))) = FrV Fr.zero by intro h; rw [h, Rat.zero_divInt]; rfl)
  have HQL := Lib.hid (show (txtL (Rat.divInt (val n) (val d)).den).length ≤ 50001 by
    obtain ⟨K, hK⟩ : ∃ K : Nat, K = 50000 := ⟨_, rfl⟩
    rw [← hK] at hd
    have := txtL_length (n := ((Rat.divInt (val n) (val d)).den : Int)) (L := K) (Nat.lt_of_le_of_lt (by have := divInt_den_le (val n) (val d) (by omega); simpa using this) (val_lt' hd))
    omega)
  have HB := Lib.hid (show FrB (w.alloc (.cells #[.string ⟨#[]⟩, .string ⟨#[]⟩] 24)) w.heap.size Fr.zero from FrB.new w Fr.zero)
  have HBA := Lib.hid (show Below w.heap.size w (w.alloc (.cells #[.string ⟨#[]⟩, .string ⟨#[]⟩] 24)) from (Below.refl _ _).alloc (Nat.le_refl _) _)
  have HPO := Lib.hid (show FracPost (frOf (Rat.divInt (val n) (val d))) w = fun e w' => e = .returned (FrV (frOf (Rat.divInt (val n) (val d)))) ∧ Below w.heap.size w w' from rfl)
  have HN := Lib.hid hn; have HD := Lib.hid hd
  generalize FracPost (frOf (Rat.divInt (val n) (val d))) w = post at *
  generalize Rat.divInt (val n) (val d) = q at *
  generalize Int.gcd (val n) (val d) = g at *
  have HV1 := Lib.hid (fun W => zExact_any n (txtL (g : Int)) W (by have := HN.out; omega) (by have := HGL.out; have := HD.out; omega) (by rw [val_txtL]; have := HGP.out; omega))
  have HV2 := Lib.hid (fun W => zExact_any d (txtL (g : Int)) W (by have := HD.out; omega) (by have := HGL.out; have := HD.out; omega) (by rw [val_txtL]; have := HGP.out; omega))
  rw [val_txtL, HR1.out] at HV1
  rw [val_txtL, HR2.out] at HV2
  have HO := Lib.hid (fun W => zOne_any W)
  have HCM := Lib.hid (fun W => rCompare_any (txtL (q.den : Int)) [49] W (by have := HQL.out; omega) (by simp))
  rw [val_txtL, one_val] at HCM
  clear hn hd hd0 HR1 HR2 HGP HGL HN HD HQL
  unfold S at *
  go_enter Tryz.func37, Tryz.ntmps37
  go_wp2_with fail
  generalize w.alloc (.cells #[.string ⟨#[]⟩, .string ⟨#[]⟩] 24) = W at *
  by_cases h0 : val n = 0
  · rw [show decide (val n = 0) = true by simp [h0]] at HZ
    have HF := Lib.hid (HQ0.out h0)
    obtain ⟨c0, c1⟩ := HB.out.cells
    have f0 := HB.out.frozen 0; have f1 := HB.out.frozen 1
    clear h0 HQ0 HV1 HV2 HCM HGC HO
    refine (HZ.out _).mono ?_
    rintro e w1 ⟨rfl, rfl⟩
    go_wp2_with fail
    refine bodyPost_ret (v := .agg #[.string ⟨#[]⟩, .string ⟨#[]⟩]) (by simp [results, Tryz.results37, go_sem, c0, c1]) rfl ?_
    rw [HPO.out, HF.out]
    exact ⟨rfl, (HBA.out.setCell (p := ⟨w.heap.size, 0, none⟩) (Nat.le_refl _) _).setCell (p := ⟨w.heap.size, 1, none⟩) (Nat.le_refl _) _⟩
  · rw [show decide (val n = 0) = false by simp [h0]] at HZ
    clear h0 HQ0
    refine (HZ.out _).mono ?_
    rintro e w1 ⟨rfl, rfl⟩
    go_wp2_with fail
    refine (HGC.out _).mono ?_
    rintro e w2 ⟨rfl, hb2⟩
    have HB2 := Lib.hid (HB.out.here hb2)
    unfold S
    go_wp2_with fail
    refine (HV1.out _).mono ?_
    rintro e w3 ⟨rfl, hb3⟩
    have HB3 := Lib.hid (HB2.out.here hb3)
    unfold S
    go_wp2_with fail
    refine (HV2.out _).mono ?_
    rintro e w4 ⟨rfl, hb4⟩
    have HB4 := Lib.hid (HB3.out.here hb4)
    unfold S
    have hb03 := HBA.out.trans ((hb2.trans ((hb3.trans (hb4.mono hb3.size)).mono hb2.size)).mono HBA.out.size)
    have hbX := (Below.refl w4.heap.size w4).alloc (Nat.le_refl _) (.cells #[.string ⟨(txtL q.num).toArray⟩, .string ⟨(txtL (q.den : Int)).toArray⟩] 24)
    have HB5 := Lib.hid (HB4.out.here hbX)
    have HG5 := Lib.hid (FrB.new w4 ⟨txtL q.num, txtL (q.den : Int)⟩)
    have HLT := Lib.hid (show w.heap.size < w4.heap.size from HB4.out.lt)
    have HBX := Lib.hid (hb03.trans (hbX.mono hb03.size))
    clear HB HB2 HB3 HB4 hb2 hb3 hb4 hbX HZ HGC HV1 HV2 hb03
    go_upto_region 5 with (fail)
    obtain ⟨g0, g1⟩ := HG5.out.cells
    have gf1 := HG5.out.frozen 1
    obtain ⟨c0, c1⟩ := HB5.out.cells
    have f0 := HB5.out.frozen 0; have f1 := HB5.out.frozen 1
    simp only at g0 g1
    generalize w4.alloc (.cells #[.string ⟨(txtL q.num).toArray⟩, .string ⟨(txtL (q.den : Int)).toArray⟩] 24) = W5 at *
    have hlt := HLT.out
    have hne1 : w.heap.size ≠ w4.heap.size := by omega
    have hne2 : w4.heap.size ≠ w.heap.size := by omega
    by_cases h1 : q.den = 1
    · have HF := Lib.hid (show FrV (frOf q) = .agg #[.string ⟨(txtL q.num).toArray⟩, .string ⟨#[]⟩] by unfold FrV frOf; simp only [if_pos h1]; rfl)
      rw [show sgnI ((q.den : Int) - 1) = 0 by rw [h1]; rfl] at HCM
      clear h1
      go_quiet (first
        | (go_at_call 55; exact Calls.quiet_of_same ((HO.out _).mono (fun e w' h => And.intro h.1 h.2.symm)))
        | (go_at_call 42; exact Calls.quiet_of_same ((HCM.out _).mono (fun e w' h => And.intro h.1 h.2.symm))))
      go_wp2_with fail
      refine bodyPost_ret (v := .agg #[.string ⟨(txtL q.num).toArray⟩, .string ⟨#[]⟩]) (by simp [results, Tryz.results37, go_sem, c0, c1]) rfl ?_
      rw [HPO.out, HF.out]
      exact ⟨rfl, zRed_below (bdN HBX.out _) HLT.out _ _ _⟩
    · have HF := Lib.hid (show FrV (frOf q) = .agg #[.string ⟨(txtL q.num).toArray⟩, .string ⟨(txtL q.den).toArray⟩] by unfold FrV frOf; simp only [if_neg h1]; rfl)
      rw [show sgnI ((q.den : Int) - 1) = 1 by unfold sgnI; rw [if_neg (by have := q.den_pos; omega), if_pos (by have := q.den_pos; omega)]] at HCM
      clear h1
      generalize txtL (q.den : Int) = t at *
      go_quiet (first
        | (go_at_call 55; exact Calls.quiet_of_same ((HO.out _).mono (fun e w' h => And.intro h.1 h.2.symm)))
        | (go_at_call 42; exact Calls.quiet_of_same ((HCM.out _).mono (fun e w' h => And.intro h.1 h.2.symm))))
      go_wp2_with fail
      refine bodyPost_ret (v := .agg #[.string ⟨(txtL q.num).toArray⟩, .string ⟨t.toArray⟩]) (by simp [results, Tryz.results37, go_sem, c0, c1]) rfl ?_
      rw [HPO.out, HF.out]
      exact ⟨rfl, ((bdN HBX.out _).setCell (p := ⟨w.heap.size, 0, none⟩) (Nat.le_refl _) _).setCell (p := ⟨w.heap.size, 1, none⟩) (Nat.le_refl _) _⟩
/-- Two fractions in blocks of their own. -/
structure Fr2 (w : World) (p : Nat) (f h : Fr) (W : World) : Prop where
  a : FrB W p f
  b : FrB W (p + 1) h
  bl : Below w.heap.size w W
theorem Fr2.here {w : World} {p : Nat} {f h : Fr} {W W' : World} (H : Fr2 w p f h W) (hb : Below W.heap.size W W') : Fr2 w p f h W' := ⟨H.a.here hb, H.b.here hb, H.bl.trans (hb.mono H.bl.size)⟩
theorem Fr2.held {w : World} {p : Nat} {f h : Fr} {W : World} (H : Fr2 w p f h W) : W.cell? ⟨p, 0, none⟩ = some (.string ⟨f.n.toArray⟩) ∧ W.cell? ⟨p, 1, none⟩ = some (.string ⟨f.d.toArray⟩) ∧ W.cell? ⟨p + 1, 0, none⟩ = some (.string ⟨h.n.toArray⟩) ∧ W.cell? ⟨p + 1, 1, none⟩ = some (.string ⟨h.d.toArray⟩) :=
  ⟨H.a.cells.1, H.a.cells.2, H.b.cells.1, H.b.cells.2⟩
theorem Fr2.new (w : World) (f h : Fr) : Fr2 w w.heap.size f h ((w.alloc (.cells #[.string ⟨f.n.toArray⟩, .string ⟨f.d.toArray⟩] 24)).alloc (.cells #[.string ⟨h.n.toArray⟩, .string ⟨h.d.toArray⟩] 24)) := by
  refine ⟨(FrB.new w f).alloc _, ?_, ((Below.refl _ _).alloc (Nat.le_refl _) _).alloc (by simp) _⟩
  have := FrB.new (w.alloc (.cells #[.string ⟨f.n.toArray⟩, .string ⟨f.d.toArray⟩] 24)) h
  simp only [World.size_alloc] at this
  exact this
theorem Fr2.newz (w : World) (f : Fr) : Fr2 w w.heap.size f Fr.zero ((w.alloc (.cells #[.string ⟨f.n.toArray⟩, .string ⟨f.d.toArray⟩] 24)).alloc (.cells #[.string ⟨#[]⟩, .string ⟨#[]⟩] 24)) := Fr2.new w f Fr.zero
set_option maxRecDepth 20000 in
set_option maxHeartbeats 1000000 in
theorem zCanonical_any (f : Fr) (w : World) (hf : f.Sz 40003) : Calls Tryz.prog 53 #[FrV f] w (FracPost (frOf f.rat) w) := by
  have HR := Lib.hid (fun W => zRaw_any f W (hf.more (by omega)))
  obtain ⟨fn, fd⟩ := f.raw_sz hf (by omega)
  have HRD := Lib.hid (fun W => zReduced_any f.raw.n f.raw.d W (by omega) (by omega) f.raw_pos)
  rw [f.raw_rat] at HRD
  have HPO := Lib.hid (show FracPost (frOf f.rat) w = fun e w' => e = .returned (FrV (frOf f.rat)) ∧ Below w.heap.size w w' from rfl)
  generalize FracPost (frOf f.rat) w = post at *
  generalize frOf f.rat = res at *
  have H2 := Lib.hid (Fr2.newz w f)
  obtain ⟨x0, x1⟩ := H2.out.a.cells
  clear hf fn fd
  generalize f.raw = x at *
  unfold FrV at *
  unfold S at *
  go_enter Tryz.func53, Tryz.ntmps53
  go_wp2_with fail
  generalize (w.alloc (.cells #[.string ⟨f.n.toArray⟩, .string ⟨f.d.toArray⟩] 24)).alloc (.cells #[.string ⟨#[]⟩, .string ⟨#[]⟩] 24) = W at *
  refine (HR.out _).mono ?_
  rintro e w1 ⟨rfl, hb1⟩
  unfold S
  have H3 := Lib.hid (H2.out.here hb1)
  go_wp2_with fail
  refine (HRD.out _).mono ?_
  rintro e w2 ⟨rfl, hb2⟩
  unfold FrV S
  have H9 := Lib.hid (H3.out.here hb2)
  have z0 := H9.out.b.cells.1; have z1 := H9.out.b.cells.2; have f0 := H9.out.b.frozen 0; have f1 := H9.out.b.frozen 1
  go_wp2_with fail
  refine bodyPost_ret (v := .agg #[.string ⟨res.n.toArray⟩, .string ⟨res.d.toArray⟩]) (by simp [results, Tryz.results53, go_sem, z0, z1]) rfl ?_
  rw [HPO.out]
  exact ⟨rfl, (H9.out.bl.setCell (p := ⟨w.heap.size + 1, 0, none⟩) (by simp only; omega) _).setCell (p := ⟨w.heap.size + 1, 1, none⟩) (by simp only; omega) _⟩
set_option maxRecDepth 20000 in
set_option maxHeartbeats 1000000 in
theorem zCheck_any (f : Fr) (w : World) (hf : f.Sz 40000) : Calls Tryz.prog 35 #[FrV f] w (CmpIPost (chkF f) w) := by
  have HC := Lib.hid (fun W => zCanonical_any f W (hf.more (by omega)))
  have HPO := Lib.hid (show CmpIPost (chkF f) w = fun e w' => e = .returned (.int .i64 (chkF f)) ∧ Below w.heap.size w w' from rfl)
  have HCK := Lib.hid (show chkF f = if f = frOf f.rat then 0 else 1 from rfl)
  generalize CmpIPost (chkF f) w = post at *
  generalize frOf f.rat = g at *
  have HB := Lib.hid (FrB.new w f)
  have HBA := Lib.hid (show Below w.heap.size w (w.alloc (.cells #[.string ⟨f.n.toArray⟩, .string ⟨f.d.toArray⟩] 24)) from (Below.refl _ _).alloc (Nat.le_refl _) _)
  obtain ⟨x0, x1⟩ := HB.out.cells
  clear hf
  have HEQ := Lib.hid (show chkF f = if (f.n == g.n) && (f.d == g.d) then 0 else 1 by
    rw [HCK.out]
    by_cases h : f = g
    · subst h; simp
    · rw [if_neg h, if_neg]
      intro h2
      simp at h2
      exact h (Fr.ext_ h2.1 h2.2))
  clear HCK
  unfold FrV at *
  unfold S at *
  cases hn : (f.n == g.n) <;> cases hd : (f.d == g.d)
  all_goals
    rw [hn, hd] at HEQ
    simp only [Bool.and_true, Bool.and_false, Bool.true_and, Bool.false_and, Bool.false_eq_true, if_true, if_false] at HEQ
    go_enter Tryz.func35, Tryz.ntmps35
    go_upto_region 1 with (fail)
    generalize w.alloc (.cells #[.string ⟨f.n.toArray⟩, .string ⟨f.d.toArray⟩] 24) = W at *
    go_region_held3 (fun w' => w'.cell? ⟨w.heap.size, 0, none⟩ = some (.string ⟨f.n.toArray⟩) ∧ w'.cell? ⟨w.heap.size, 1, none⟩ = some (.string ⟨f.d.toArray⟩))
      (first
        | exact (HB.out.here hz).cells
        | go_keep)
      (first
        | (go_at_call 53; refine (HC.out _).mono ?_; rintro e w1 ⟨rfl, hb1⟩; unfold FrV S; have hz : Below W.heap.size W w1 := (Below.refl _ W).drew.trans hb1))
    all_goals
      go_wp2_with fail
      rw [HPO.out, HEQ.out]
      exact ⟨rfl, HBA.out.trans (hz.mono HBA.out.size)⟩
/-- What New gives. -/
def newL (f : Fr) : Fr × Int := if val f.d = 0 then (Fr.zero, 10) else (frOf f.rat, 0)
set_option maxRecDepth 20000 in
set_option maxHeartbeats 1000000 in
theorem zNew_any (f : Fr) (w : World) (hf : f.Sz 40003) : Calls Tryz.prog 39 #[S f.n, S f.d] w (QuoPost (newL f) w) := by
  have HZ := Lib.hid (fun W => zZero_any f.d W (by have := hf.2; omega))
  have HC := Lib.hid (fun W => zCanonical_any f W hf)
  have HPO := Lib.hid (show QuoPost (newL f) w = fun e w' => e = .returned (.tuple #[FrV (newL f).1, .int .i64 (newL f).2]) ∧ Below w.heap.size w w' from rfl)
  have HNL := Lib.hid (show newL f = if val f.d = 0 then (Fr.zero, 10) else (frOf f.rat, 0) from rfl)
  generalize QuoPost (newL f) w = post at *
  generalize newL f = nl at *
  generalize frOf f.rat = res at *
  have HB := Lib.hid (show FrB (w.alloc (.cells #[.string ⟨#[]⟩, .string ⟨#[]⟩] 24)) w.heap.size Fr.zero from FrB.new w Fr.zero)
  have HBA := Lib.hid (show Below w.heap.size w (w.alloc (.cells #[.string ⟨#[]⟩, .string ⟨#[]⟩] 24)) from (Below.refl _ _).alloc (Nat.le_refl _) _)
  clear hf
  unfold FrV at *
  unfold S at *
  go_enter Tryz.func39, Tryz.ntmps39
  go_wp2_with fail
  generalize w.alloc (.cells #[.string ⟨#[]⟩, .string ⟨#[]⟩] 24) = W at *
  by_cases h0 : val f.d = 0
  · rw [show decide (val f.d = 0) = true by simp [h0]] at HZ
    rw [if_pos h0] at HNL
    obtain ⟨c0, c1⟩ := HB.out.cells
    have f0 := HB.out.frozen 0; have f1 := HB.out.frozen 1
    clear h0 HC
    refine (HZ.out _).mono ?_
    rintro e w1 ⟨rfl, rfl⟩
    go_wp2_with fail
    refine bodyPost_ret (v := .tuple #[.agg #[.string ⟨#[]⟩, .string ⟨#[]⟩], .int .i64 10]) (by simp [results, Tryz.results39, go_sem, c0, c1]) rfl ?_
    rw [HPO.out, HNL.out]
    exact ⟨rfl, (HBA.out.setCell (p := ⟨w.heap.size, 0, none⟩) (Nat.le_refl _) _).setCell (p := ⟨w.heap.size, 1, none⟩) (Nat.le_refl _) _⟩
  · rw [show decide (val f.d = 0) = false by simp [h0]] at HZ
    rw [if_neg h0] at HNL
    clear h0
    refine (HZ.out _).mono ?_
    rintro e w1 ⟨rfl, rfl⟩
    go_wp2_with fail
    refine (HC.out _).mono ?_
    rintro e w2 ⟨rfl, hb2⟩
    unfold FrV S
    have HB2 := Lib.hid (HB.out.here hb2)
    have hb02 := HBA.out.trans (hb2.mono HBA.out.size)
    obtain ⟨c0, c1⟩ := HB2.out.cells
    have f0 := HB2.out.frozen 0; have f1 := HB2.out.frozen 1
    go_wp2_with fail
    refine bodyPost_ret (v := .tuple #[.agg #[.string ⟨res.n.toArray⟩, .string ⟨res.d.toArray⟩], .int .i64 0]) (by simp [results, Tryz.results39, go_sem, c0, c1]) rfl ?_
    rw [HPO.out, HNL.out]
    exact ⟨rfl, (hb02.setCell (p := ⟨w.heap.size, 0, none⟩) (Nat.le_refl _) _).setCell (p := ⟨w.heap.size, 1, none⟩) (Nat.le_refl _) _⟩
theorem neg_raw (x : Fr) (h : 0 < val x.d) : Rat.divInt (val (txtL (-val x.n))) (val x.d) = -x.rat := by
  have e1 : x.rat = Rat.divInt (val x.n) (val x.d) := by unfold Fr.rat Fr.dv; rw [if_neg (by omega)]
  rw [e1, val_txtL, Rat.neg_divInt]
set_option maxRecDepth 20000 in
set_option maxHeartbeats 1000000 in
theorem zNeg_any (f : Fr) (w : World) (hf : f.Sz 40000) : Calls Tryz.prog 41 #[FrV f] w (FracPost (frOf (-f.rat)) w) := by
  have HR := Lib.hid (fun W => zRaw_any f W (hf.more (by omega)))
  obtain ⟨fn, fd⟩ := f.raw_sz hf (by omega)
  have HN := Lib.hid (fun W => rNeg_any f.raw.n W (by omega))
  have HRD := Lib.hid (fun W => zReduced_any (txtL (-val f.raw.n)) f.raw.d W (by have := txtL_length (n := -val f.raw.n) (L := f.raw.n.length) (by have := val_lt f.raw.n; omega); omega) (by omega) f.raw_pos)
  rw [neg_raw _ f.raw_pos, f.raw_rat'] at HRD
  have HPO := Lib.hid (show FracPost (frOf (-f.rat)) w = fun e w' => e = .returned (FrV (frOf (-f.rat))) ∧ Below w.heap.size w w' from rfl)
  generalize FracPost (frOf (-f.rat)) w = post at *
  generalize frOf (-f.rat) = res at *
  have H2 := Lib.hid (Fr2.newz w f)
  obtain ⟨x0, x1⟩ := H2.out.a.cells
  clear hf fn fd
  generalize f.raw = x at *
  unfold FrV at *
  unfold S at *
  go_enter Tryz.func41, Tryz.ntmps41
  go_wp2_with fail
  generalize (w.alloc (.cells #[.string ⟨f.n.toArray⟩, .string ⟨f.d.toArray⟩] 24)).alloc (.cells #[.string ⟨#[]⟩, .string ⟨#[]⟩] 24) = W at *
  refine (HR.out _).mono ?_
  rintro e w1 ⟨rfl, hb1⟩
  try unfold S
  have H3 := Lib.hid (H2.out.here hb1)
  go_wp2_with fail
  refine (HN.out _).mono ?_
  rintro e w1 ⟨rfl, rfl⟩
  try unfold S
  go_wp2_with fail
  refine (HRD.out _).mono ?_
  rintro e w2 ⟨rfl, hb2⟩
  unfold FrV S
  have H9 := Lib.hid (H3.out.here hb2)
  have z0 := H9.out.b.cells.1; have z1 := H9.out.b.cells.2; have f0 := H9.out.b.frozen 0; have f1 := H9.out.b.frozen 1
  go_wp2_with fail
  refine bodyPost_ret (v := .agg #[.string ⟨res.n.toArray⟩, .string ⟨res.d.toArray⟩]) (by simp [results, Tryz.results41, go_sem, z0, z1]) rfl ?_
  rw [HPO.out]
  exact ⟨rfl, (H9.out.bl.setCell (p := ⟨w.heap.size + 1, 0, none⟩) (by simp only; omega) _).setCell (p := ⟨w.heap.size + 1, 1, none⟩) (by simp only; omega) _⟩
end Go.Proofs.YtaiikjgoofefgaaGreatDoor
