/- Contracts of fraction's Quo, Compare, Of, Check. -/
import Derived.Test.YtaiikjgoofefgaaGreatDoorFp5qG1s
namespace Go.Proofs.YtaiikjgoofefgaaGreatDoor
open Go.RowKit Go.Shelf

/-- What a function gives that returns a fraction and an error number. -/
def QuoPost (r : Fr × Int) (w : World) (e : Ending) (w' : World) : Prop := e = .returned (.tuple #[FrV r.1, .int .i64 r.2]) ∧ Below w.heap.size w w'
def quoL (x y : Rat) : Fr × Int := if y = 0 then (Fr.zero, 10) else (frOf (x / y), 0)
theorem sgn_zero (n : Int) : (sgnI n == 0) = decide (n = 0) := by
  unfold sgnI
  rw [Bool.eq_iff_iff]
  simp
  (repeat' split) <;> omega
set_option maxRecDepth 20000 in
set_option maxHeartbeats 1000000 in
theorem fQuo_any (f h : Fr) (w : World) (hp : Pow w) (hf : f.Sz 20000) (hh : h.Sz 20000) : Calls Tryz.prog 13 #[FrV f, FrV h] w (QuoPost (quoL f.rat h.rat) w) := by
  have HCM := Lib.hid (Compare_any h.n [] (((w.alloc (.cells #[.string ⟨f.n.toArray⟩, .string ⟨f.d.toArray⟩] 24)).alloc (.cells #[.string ⟨h.n.toArray⟩, .string ⟨h.d.toArray⟩] 24)).alloc (.cells #[.string ⟨#[]⟩, .string ⟨#[]⟩] 24)) (by have := hh.1; omega) (by simp))
  rw [show val ([] : List UInt8) = 0 from val_nil, Int.sub_zero] at HCM
  have HAP := Lib.hid (fun (h0 : val h.n ≠ 0) p W hlt hc hpw => by
    obtain ⟨K, hKe⟩ : ∃ K : Nat, K = 20000 := ⟨_, rfl⟩
    rw [← hKe] at hf hh
    have hK : 1 ≤ K := by omega
    exact apply_any 49 _ fop4 p f h W hlt hc hpw (by rw [← hKe]; exact hf) (by rw [← hKe]; exact hh) (Int.mul_ne_zero f.dv_ne h0) (rb_len (mul_lt_pow (val_lt' hf.1) (Fr.dv_lt hh.2 hK)) (by omega)) (rb_len (mul_lt_pow (Fr.dv_lt hf.2 hK) (val_lt' hh.1)) (by omega)))
  simp only [← rat_div] at HAP
  have HQ := Lib.hid (show quoL f.rat h.rat = if val h.n = 0 then (Fr.zero, 10) else (frOf (f.rat / h.rat), 0) by unfold quoL; simp only [rat_eq_zero])
  have HPO := Lib.hid (show QuoPost (quoL f.rat h.rat) w = fun e w' => e = .returned (.tuple #[FrV (quoL f.rat h.rat).1, .int .i64 (quoL f.rat h.rat).2]) ∧ Below w.heap.size w w' from rfl)
  generalize QuoPost (quoL f.rat h.rat) w = post at *
  generalize frOf (f.rat / h.rat) = res at *
  have H3 := Lib.hid (Fr3.new w f h)
  have HP := Lib.hid hp
  obtain ⟨x0, x1, y0, y1⟩ := H3.out.held
  clear hp hf hh
  unfold FrV at *
  unfold S at *
  go_enter Tryz.func13, Tryz.ntmps13
  go_wp2_with fail
  generalize (((w.alloc (.cells #[.string ⟨f.n.toArray⟩, .string ⟨f.d.toArray⟩] 24)).alloc (.cells #[.string ⟨h.n.toArray⟩, .string ⟨h.d.toArray⟩] 24)).alloc (.cells #[.string ⟨#[]⟩, .string ⟨#[]⟩] 24)) = W0 at *
  refine HCM.out.mono ?_
  rintro e W ⟨rfl, hb0⟩
  have HS := Lib.hid (sgn_zero (val h.n))
  have H4 := Lib.hid (H3.out.here hb0)
  clear x0 x1 y0 y1
  obtain ⟨x0, x1, y0, y1⟩ := H4.out.held
  by_cases h0 : val h.n = 0
  · have hs : (sgnI (val h.n) == 0) = true := by rw [HS.out]; simp [h0]
    rw [if_pos h0] at HQ
    have z0 := H4.out.c.cells.1; have z1 := H4.out.c.cells.2; have f0 := H4.out.c.frozen 0; have f1 := H4.out.c.frozen 1
    clear h0 HS
    go_wp2_with fail
    refine bodyPost_ret (v := .tuple #[.agg #[.string ⟨#[]⟩, .string ⟨#[]⟩], .int .i64 10]) (by simp [results, Tryz.results13, go_sem, z0, z1]) rfl ?_
    rw [HPO.out, HQ.out]
    exact ⟨rfl, (H4.out.bl.setCell (p := ⟨w.heap.size + 1 + 1, 0, none⟩) (by simp only; omega) _).setCell (p := ⟨w.heap.size + 1 + 1, 1, none⟩) (by simp only; omega) _⟩
  · have hs : (sgnI (val h.n) == 0) = false := by rw [HS.out]; simp [h0]
    rw [if_neg h0] at HQ
    have HAP2 := Lib.hid (HAP.out h0)
    clear h0 HS HAP
    go_upto_region 3 with (fail)
    go_region_held3 (fun w' => w'.cell? ⟨w.heap.size, 0, none⟩ = some (.string ⟨f.n.toArray⟩) ∧ w'.cell? ⟨w.heap.size, 1, none⟩ = some (.string ⟨f.d.toArray⟩) ∧ w'.cell? ⟨w.heap.size + 1, 0, none⟩ = some (.string ⟨h.n.toArray⟩) ∧ w'.cell? ⟨w.heap.size + 1, 1, none⟩ = some (.string ⟨h.d.toArray⟩))
      (first
        | exact (H4.out.here hz2).heldS _ _
        | exact (H4.out.here hz2).held
        | exact (H4.out.here hz).held
        | go_keep)
      (first
        | (go_at_call 27; refine (ops_any _).mono ?_; rintro e w1 ⟨p, rfl, hlt, hc, hb1⟩; have hz : Below W.heap.size W w1 := (Below.refl _ W).drew.trans hb1; have hix := idx_ops3 p w1)
        | (go_at_call 26; refine (HAP2.out p _ hlt hc (HP.out.here (H4.out.here hz).bl)).mono ?_; rintro e w2 ⟨rfl, hb2⟩; unfold FrV S; have hz2 := hz.trans (hb2.mono hz.size); have z0 := (H4.out.here hz2).c.cells.1; have z1 := (H4.out.here hz2).c.cells.2; have f0 := (H4.out.here hz2).c.frozen 0; have f1 := (H4.out.here hz2).c.frozen 1))
    all_goals
      go_wp2_with fail
      refine bodyPost_ret (v := .tuple #[.agg #[.string ⟨res.n.toArray⟩, .string ⟨res.d.toArray⟩], .int .i64 0]) (by simp [results, Tryz.results13, go_sem, z0, z1]) rfl ?_
      rw [HPO.out, HQ.out]
      exact ⟨rfl, ((H4.out.here hz2).bl.setCell (p := ⟨w.heap.size + 1 + 1, 0, none⟩) (by simp only; omega) _).setCell (p := ⟨w.heap.size + 1 + 1, 1, none⟩) (by simp only; omega) _⟩
theorem sub_sz {f h : Fr} {L : Nat} (hf : f.Sz L) (hh : h.Sz L) (hL : 1 ≤ L) : (frOf (f.rat - h.rat)).Sz (L + L + 1 + 1) := frOf_sz (rb_sub hf hh hL)
set_option maxRecDepth 20000 in
set_option maxHeartbeats 1000000 in
theorem fCompare_any (f h : Fr) (w : World) (hp : Pow w) (hf : f.Sz 20000) (hh : h.Sz 20000) : Calls Tryz.prog 14 #[FrV f, FrV h] w (CmpIPost (cmpR f.rat h.rat) w) := by
  have HSU := Lib.hid (fun W hp => fSub_any f h W hp hf hh)
  have hsz : (frOf (f.rat - h.rat)).Sz 40002 := by
    obtain ⟨K, hKe⟩ : ∃ K : Nat, K = 20000 := ⟨_, rfl⟩
    rw [← hKe] at hf hh
    have := sub_sz hf hh (by omega)
    rw [hKe] at this
    exact this
  have HCR := Lib.hid (show cmpR f.rat h.rat = sgnI (val (frOf (f.rat - h.rat)).n - val []) by
    rw [cmpR_sub, val_nil, Int.sub_zero]; unfold frOf; simp only [val_txtL])
  have HPO := Lib.hid (show CmpIPost (cmpR f.rat h.rat) w = fun e w' => e = .returned (.int .i64 (cmpR f.rat h.rat)) ∧ Below w.heap.size w w' from rfl)
  generalize CmpIPost (cmpR f.rat h.rat) w = post at *
  rw [HCR.out] at HPO
  generalize frOf (f.rat - h.rat) = r at *
  have HPA := Lib.hid (fun W => parts_any r W (by have := hsz.2; omega))
  have HCM := Lib.hid (fun W => Compare_any r.n [] W (by have := hsz.1; omega) (by simp))
  have HP := Lib.hid hp
  have hB1 : FrB ((w.alloc (.cells #[.string ⟨f.n.toArray⟩, .string ⟨f.d.toArray⟩] 24)).alloc (.cells #[.string ⟨h.n.toArray⟩, .string ⟨h.d.toArray⟩] 24)) w.heap.size f := (FrB.new w f).alloc _
  have hB2 : FrB ((w.alloc (.cells #[.string ⟨f.n.toArray⟩, .string ⟨f.d.toArray⟩] 24)).alloc (.cells #[.string ⟨h.n.toArray⟩, .string ⟨h.d.toArray⟩] 24)) (w.heap.size + 1) h := by
    have := FrB.new (w.alloc (.cells #[.string ⟨f.n.toArray⟩, .string ⟨f.d.toArray⟩] 24)) h
    simp only [World.size_alloc] at this
    exact this
  have hbA : Below w.heap.size w ((w.alloc (.cells #[.string ⟨f.n.toArray⟩, .string ⟨f.d.toArray⟩] 24)).alloc (.cells #[.string ⟨h.n.toArray⟩, .string ⟨h.d.toArray⟩] 24)) := ((Below.refl _ _).alloc (Nat.le_refl _) _).alloc (by simp) _
  obtain ⟨x0, x1⟩ := hB1.cells
  obtain ⟨y0, y1⟩ := hB2.cells
  have HBA := Lib.hid hbA
  clear hp hf hh hsz HCR hB1 hB2 hbA
  unfold FrV at *
  unfold S at *
  go_enter Tryz.func14, Tryz.ntmps14
  go_wp2_with fail
  generalize (w.alloc (.cells #[.string ⟨f.n.toArray⟩, .string ⟨f.d.toArray⟩] 24)).alloc (.cells #[.string ⟨h.n.toArray⟩, .string ⟨h.d.toArray⟩] 24) = W at *
  refine (HSU.out W (HP.out.here HBA.out)).mono ?_
  rintro e w1 ⟨rfl, hb1⟩
  unfold FrV S
  have hb01 := HBA.out.trans (hb1.mono HBA.out.size)
  go_wp2_with fail
  refine (HPA.out w1).mono ?_
  rintro e w2 ⟨rfl, hb2⟩
  unfold S
  have hb02 := hb01.trans (hb2.mono hb01.size)
  go_wp2_with fail
  refine (HCM.out w2).mono ?_
  rintro e w3 ⟨rfl, hb3⟩
  have hb03 := hb02.trans (hb3.mono hb02.size)
  go_wp2_with fail
  rw [HPO.out]
  exact ⟨rfl, hb03⟩
theorem divInt_one (n : Int) : Rat.divInt n 1 = (n : Rat) := by
  have := Rat.num_divInt_den (n : Rat)
  simpa using this
set_option maxRecDepth 20000 in
theorem fOf_any (a : List UInt8) (w : World) (hp : Pow w) (ha : a.length ≤ 50000) : Calls Tryz.prog 15 #[S a] w (FracPost (frOf (val a)) w) := by
  have hbA : Below w.heap.size w (w.alloc (.cells #[.string ⟨#[]⟩, .string ⟨#[]⟩] 24)) := (Below.refl _ _).alloc (Nat.le_refl _) _
  have HMD := Lib.hid (made_any a [49] (w.alloc (.cells #[.string ⟨#[]⟩, .string ⟨#[]⟩] 24)) (hp.here hbA) ha (by simp) (by rw [one_val]; omega))
  rw [one_val, divInt_one] at HMD
  have HPO := Lib.hid (show FracPost (frOf (val a)) w = fun e w' => e = .returned (FrV (frOf (val a))) ∧ Below w.heap.size w w' from rfl)
  generalize FracPost (frOf (val a)) w = post at *
  generalize frOf (val a) = res at *
  have HB := Lib.hid (show FrB (w.alloc (.cells #[.string ⟨#[]⟩, .string ⟨#[]⟩] 24)) w.heap.size Fr.zero from FrB.new w Fr.zero)
  have HBA := Lib.hid hbA
  clear hp ha hbA
  unfold FrV at *
  unfold S at *
  go_enter Tryz.func15, Tryz.ntmps15
  go_wp2_with fail
  generalize w.alloc (.cells #[.string ⟨#[]⟩, .string ⟨#[]⟩] 24) = W at *
  refine HMD.out.mono ?_
  rintro e w1 ⟨rfl, hb1⟩
  unfold FrV S
  have HB1 := Lib.hid (HB.out.here hb1)
  obtain ⟨c0, c1⟩ := HB1.out.cells
  have f0 := HB1.out.frozen 0; have f1 := HB1.out.frozen 1
  have hb01 := HBA.out.trans (hb1.mono HBA.out.size)
  go_wp2_with fail
  refine bodyPost_ret (v := .agg #[.string ⟨res.n.toArray⟩, .string ⟨res.d.toArray⟩]) (by simp [results, Tryz.results15, go_sem, c0, c1]) rfl ?_
  rw [HPO.out]
  exact ⟨rfl, (hb01.setCell (p := ⟨w.heap.size, 0, none⟩) (Nat.le_refl _) _).setCell (p := ⟨w.heap.size, 1, none⟩) (Nat.le_refl _) _⟩
/-- What Check gives. -/
def chkF (f : Fr) : Int := if f.ok then 0 else 1
set_option maxRecDepth 20000 in
set_option maxHeartbeats 1000000 in
theorem fCheck_any (f : Fr) (w : World) (hp : Pow w) (hf : f.Sz 20000) : Calls Tryz.prog 33 #[FrV f] w (CmpIPost (chkF f) w) := by
  have hbA : Below w.heap.size w (w.alloc (.cells #[.string ⟨f.n.toArray⟩, .string ⟨f.d.toArray⟩] 24)) := (Below.refl _ _).alloc (Nat.le_refl _) _
  have HPA := Lib.hid (fun W => parts_any f W (by have := hf.2; omega))
  have HMD := Lib.hid (fun W hp => made_any f.n f.dt W hp (by have := hf.1; omega) (by have := Fr.dt_len hf.2 (by omega); omega) (by rw [Fr.val_dt]; exact f.dv_ne))
  rw [Fr.val_dt, show Rat.divInt (val f.n) f.dv = f.rat from rfl] at HMD
  have HPO := Lib.hid (show CmpIPost (chkF f) w = fun e w' => e = .returned (.int .i64 (chkF f)) ∧ Below w.heap.size w w' from rfl)
  have HCK := Lib.hid (show chkF f = if f = frOf f.rat then 0 else 1 from rfl)
  generalize CmpIPost (chkF f) w = post at *
  generalize frOf f.rat = g at *
  have HB := Lib.hid (FrB.new w f)
  have HBA := Lib.hid hbA
  have HP := Lib.hid hp
  obtain ⟨x0, x1⟩ := HB.out.cells
  clear hp hf hbA
  have HEQ := Lib.hid (show chkF f = if (f.n == g.n) && (f.d == g.d) then 0 else 1 by
    rw [HCK.out]
    by_cases h : f = g
    · subst h; simp
    · rw [if_neg h, if_neg]
      intro h2
      simp at h2
      exact h (Fr.ext_ h2.1 h2.2))
  clear HCK
  unfold FrV at *
  unfold S at *
  cases hn : (f.n == g.n) <;> cases hd : (f.d == g.d)
  all_goals
    rw [hn, hd] at HEQ
    simp only [Bool.and_true, Bool.and_false, Bool.true_and, Bool.false_and, Bool.false_eq_true, if_true, if_false] at HEQ
    go_enter Tryz.func33, Tryz.ntmps33
    go_upto_region 1 with (fail)
    generalize w.alloc (.cells #[.string ⟨f.n.toArray⟩, .string ⟨f.d.toArray⟩] 24) = W at *
    go_region_held3 (fun w' => w'.cell? ⟨w.heap.size, 0, none⟩ = some (.string ⟨f.n.toArray⟩) ∧ w'.cell? ⟨w.heap.size, 1, none⟩ = some (.string ⟨f.d.toArray⟩))
      (first
        | exact (HB.out.here hz2).cells
        | exact (HB.out.here hz).cells
        | go_keep)
      (first
        | (go_at_call 29; refine (HPA.out _).mono ?_; rintro e w1 ⟨rfl, hb1⟩; unfold S; have hz : Below W.heap.size W w1 := (Below.refl _ W).drew.trans hb1)
        | (go_at_call 30; refine (HMD.out _ (HP.out.here (HBA.out.trans (hz.mono HBA.out.size)))).mono ?_; rintro e w2 ⟨rfl, hb2⟩; unfold FrV S; have hz2 := hz.trans (hb2.mono hz.size)))
    all_goals
      go_wp2_with fail
      rw [HPO.out, HEQ.out]
      exact ⟨rfl, HBA.out.trans (hz2.mono HBA.out.size)⟩
end Go.Proofs.YtaiikjgoofefgaaGreatDoor
