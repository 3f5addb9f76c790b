/- The reference's layer 28: Price, Share; and its fractions' Sub. Printed by gen_rs2.py. -/
import Derived.Test.YtaiikjgoofefgaaGreatDoorRS1qG1s
namespace Go.Proofs.YtaiikjgoofefgaaGreatDoor
open Go.RowKit Go.Shelf

theorem rb_neg {q : Rat} {L : Nat} (h : RB L q) : RB L (-q) := by
  unfold RB at *
  rw [Rat.neg_num, Rat.neg_den, Int.natAbs_neg]
  exact h
set_option maxRecDepth 20000 in
set_option maxHeartbeats 1000000 in
theorem zSub_any (f h : Fr) (w : World) (hf : f.Sz 19999) (hh : h.Sz 19999) : Calls Tryz.prog 24 #[FrV f, FrV h] w (FracPost (frOf (f.rat - h.rat)) w) := by
  have HN := Lib.hid (fun W => zNeg_any h W (hh.more (by omega)))
  have hz : (frOf (-h.rat)).Sz 20000 := by
    obtain ⟨K, hK⟩ : ∃ K : Nat, K = 19999 := ⟨_, rfl⟩
    rw [← hK] at hh
    have := frOf_sz (rb_neg (sz_rb hh (by omega)))
    rwa [hK] at this
  have HA := Lib.hid (fun W => zAdd_any f (frOf (-h.rat)) W (hf.more (by omega)) hz)
  rw [rat_frOf, ← Rat.sub_eq_add_neg] at HA
  have HPO := Lib.hid (show FracPost (frOf (f.rat - h.rat)) w = fun e w' => e = .returned (FrV (frOf (f.rat - h.rat))) ∧ Below w.heap.size w w' from rfl)
  generalize FracPost (frOf (f.rat - h.rat)) w = post at *
  generalize frOf (f.rat - h.rat) = res at *
  generalize frOf (-h.rat) = ng at *
  have H3 := Lib.hid (Fr3.new w f h)
  obtain ⟨x0, x1, y0, y1⟩ := H3.out.held
  clear hf hh hz
  unfold FrV at *
  unfold S at *
  go_enter Tryz.func24, Tryz.ntmps24
  go_upto_region 1 with (fail)
  generalize (((w.alloc (.cells #[.string ⟨f.n.toArray⟩, .string ⟨f.d.toArray⟩] 24)).alloc (.cells #[.string ⟨h.n.toArray⟩, .string ⟨h.d.toArray⟩] 24)).alloc (.cells #[.string ⟨#[]⟩, .string ⟨#[]⟩] 24)) = W at *
  go_region_held3 (fun w' => w'.cell? ⟨w.heap.size, 0, none⟩ = some (.string ⟨f.n.toArray⟩) ∧ w'.cell? ⟨w.heap.size, 1, none⟩ = some (.string ⟨f.d.toArray⟩) ∧ w'.cell? ⟨w.heap.size + 1, 0, none⟩ = some (.string ⟨h.n.toArray⟩) ∧ w'.cell? ⟨w.heap.size + 1, 1, none⟩ = some (.string ⟨h.d.toArray⟩))
    (first
      | exact (H3.out.here hz2).heldS _ _
      | exact (H3.out.here hz2).held
      | exact (H3.out.here hz).held
      | go_keep)
    (first
      | (go_at_call 41; refine (HN.out _).mono ?_; rintro e w1 ⟨rfl, hb1⟩; unfold FrV S; have hz : Below W.heap.size W w1 := (Below.refl _ W).drew.trans hb1)
      | (go_at_call 22; refine (HA.out _).mono ?_; rintro e w2 ⟨rfl, hb2⟩; unfold FrV S; have hz2 := hz.trans (hb2.mono hz.size); have z0 := (H3.out.here hz2).c.cells.1; have z1 := (H3.out.here hz2).c.cells.2; have f0 := (H3.out.here hz2).c.frozen 0; have f1 := (H3.out.here hz2).c.frozen 1))
  all_goals
    go_wp2_with fail
    refine bodyPost_ret (v := .agg #[.string ⟨res.n.toArray⟩, .string ⟨res.d.toArray⟩]) (by simp [results, Tryz.results24, go_sem, z0, z1]) rfl ?_
    rw [HPO.out]
    exact ⟨rfl, ((H3.out.here hz2).bl.setCell (p := ⟨w.heap.size + 1 + 1, 0, none⟩) (by simp only; omega) _).setCell (p := ⟨w.heap.size + 1 + 1, 1, none⟩) (by simp only; omega) _⟩
set_option maxRecDepth 20000 in
set_option maxHeartbeats 1000000 in
theorem zsPrice_any (p v r : Fr) (w : World) (hp2 : p.Sz 100) (hv : v.Sz 100) (hr : r.Sz 100) : Calls Tryz.prog 10 #[FrV p, FrV v, FrV r] w (QuoPost (priceL p v r) w) := by
  have H4 := Lib.hid (Fr4.new w p v r)
  obtain ⟨x0, x1⟩ := H4.out.a.cells
  obtain ⟨y0, y1⟩ := H4.out.b.cells
  obtain ⟨z0, z1⟩ := H4.out.c.cells
  have HCK := Lib.hid (fun W => zsCheck_any p v r W (hp2.more (by omega)) (hv.more (by omega)) (hr.more (by omega)))
  have hgs : (frOf (v.rat * r.rat)).Sz 201 := mul_sz hv hr (by omega)
  have HMU := Lib.hid (fun W => zMul_any v r W (hv.more (by omega)) (hr.more (by omega)))
  have HSU := Lib.hid (fun W => zSub_any p (frOf (v.rat * r.rat)) W (hp2.more (by omega)) (hgs.more (by omega)))
  rw [rat_frOf] at HSU
  have hss : (frOf (p.rat - v.rat * r.rat)).Sz 404 := by
    have := sub_sz (hp2.more (show 100 ≤ 201 by omega)) hgs (by omega)
    rwa [rat_frOf] at this
  have HCP := Lib.hid (fun W => zCompare_any (frOf (p.rat - v.rat * r.rat)) Fr.zero W (hss.more (by omega)) ⟨by simp [Fr.zero], by simp [Fr.zero]⟩)
  rw [rat_frOf] at HCP
  have HZ := Lib.hid (cmp_zero (p.rat - v.rat * r.rat))
  have HPL := Lib.hid (show priceL p v r = if chkS p v r = 0 then (if p.rat - v.rat * r.rat < 0 then (Fr.zero, 2) else (frOf (p.rat - v.rat * r.rat), 0)) else (Fr.zero, chkS p v r) from rfl)
  have HPO := Lib.hid (show QuoPost (priceL p v r) w = fun e w' => e = .returned (.tuple #[FrV (priceL p v r).1, .int .i64 (priceL p v r).2]) ∧ Below w.heap.size w w' from rfl)
  generalize QuoPost (priceL p v r) w = post at *
  generalize priceL p v r = pl at *
  generalize chkS p v r = ck at *
  generalize frOf (v.rat * r.rat) = gv_ at *
  generalize hres : frOf (p.rat - v.rat * r.rat) = res at *
  generalize p.rat - v.rat * r.rat = q at *
  generalize cmpR q Fr.zero.rat = cq at *
  clear hp2 hv hr hgs hss hres
  unfold FrV at *
  unfold S at *
  go_enter Tryz.func10, Tryz.ntmps10
  go_upto_region 1 with (fail)
  generalize ((((w.alloc (.cells #[.string ⟨p.n.toArray⟩, .string ⟨p.d.toArray⟩] 24)).alloc (.cells #[.string ⟨v.n.toArray⟩, .string ⟨v.d.toArray⟩] 24)).alloc (.cells #[.string ⟨r.n.toArray⟩, .string ⟨r.d.toArray⟩] 24)).alloc (.cells #[.string ⟨#[]⟩, .string ⟨#[]⟩] 24)) = W at *
  go_wp2_with fail
  refine (HCK.out _).mono ?_
  rintro e w1 ⟨rfl, hb1⟩
  have hbW1 : Below W.heap.size W w1 := hb1
  have H5 := Lib.hid (H4.out.here hbW1)
  clear x0 x1 y0 y1 z0 z1 hb1
  obtain ⟨x0, x1⟩ := H5.out.a.cells
  obtain ⟨y0, y1⟩ := H5.out.b.cells
  obtain ⟨z0, z1⟩ := H5.out.c.cells
  by_cases hck : ck = 0
  · rw [if_pos hck] at HPL
    subst hck
    go_upto_region 4 with (fail)
    go_cut [9] (fun s wc => ∃ q9, s = .pointer (some ⟨q9, 0, none⟩) ∧ Hid (FrB wc q9 res) ∧ Hid (Fr4 w w.heap.size p v r wc))
    case first =>
      go_region_held3 (fun w' => w'.cell? ⟨w.heap.size, 0, none⟩ = some (.string ⟨p.n.toArray⟩) ∧ w'.cell? ⟨w.heap.size, 1, none⟩ = some (.string ⟨p.d.toArray⟩) ∧ w'.cell? ⟨w.heap.size + 1, 0, none⟩ = some (.string ⟨v.n.toArray⟩) ∧ w'.cell? ⟨w.heap.size + 1, 1, none⟩ = some (.string ⟨v.d.toArray⟩) ∧ w'.cell? ⟨w.heap.size + 1 + 1, 0, none⟩ = some (.string ⟨r.n.toArray⟩) ∧ w'.cell? ⟨w.heap.size + 1 + 1, 1, none⟩ = some (.string ⟨r.d.toArray⟩))
        (first
          | exact ((H5.out.here hz2).far2 _ hq9 _ _).held
          | exact ((H5.out.here hz2).here ((Below.refl _ _).alloc (Nat.le_refl _) _)).held
          | exact (H5.out.here hz2).held
          | exact ((H5.out.here hz).here ((Below.refl _ _).alloc (Nat.le_refl _) _)).held
          | exact (H5.out.here hz).held
          | go_keep)
        (first
          | (go_at_call 20; refine (HMU.out _).mono ?_; rintro e w2 ⟨rfl, hb2⟩; unfold FrV S
             have hz : Below w1.heap.size w1 w2 := by first | exact (Below.refl _ w1).drew.trans hb2 | exact ((Below.refl _ w1).alloc (Nat.le_refl _) _).drew.trans (hb2.mono (by simp))
             first | (have hq1 : FrB w2 w1.heap.size Fr.zero := FrB.here (w := (w1.alloc (.cells #[.string ⟨#[]⟩, .string ⟨#[]⟩] 24)).drew) (FrB.new w1 Fr.zero) hb2) | skip)
          | (go_at_call 24; refine (HSU.out _).mono ?_; rintro e w3 ⟨rfl, hb3⟩; unfold FrV S
             have hz2 : Below w1.heap.size w1 w3 := by first | exact hz.trans (hb3.mono hz.size) | exact (hz.alloc hz.size _).trans (hb3.mono (by have := hz.size; simp; omega))
             first
               | (have hq2 : FrB w3 w1.heap.size Fr.zero := hq1.here hb3; have n0 := hq2.cells.1; have n1 := hq2.cells.2; have g0 := hq2.frozen 0; have g1 := hq2.frozen 1; have hq9 : w.heap.size + 1 + 1 + 1 < w1.heap.size := H5.out.d.lt)
               | (have hq2 : FrB w3 w2.heap.size Fr.zero := FrB.here (w := w2.alloc (.cells #[.string ⟨#[]⟩, .string ⟨#[]⟩] 24)) (FrB.new w2 Fr.zero) hb3; have n0 := hq2.cells.1; have n1 := hq2.cells.2; have g0 := hq2.frozen 0; have g1 := hq2.frozen 1; have hq9 : w.heap.size + 1 + 1 + 1 < w2.heap.size := (H5.out.here hz).d.lt)
               | skip))
      all_goals
        go_wp2_with fail
        go_meet
        first
          | exact ⟨_, rfl, hq2.set2 res, (H5.out.here hz2).far2 _ hq9 _ _⟩
          | exact ⟨_, rfl, FrB.new w3 res, (H5.out.here hz2).here ((Below.refl _ _).alloc (Nat.le_refl _) _)⟩
    case rest =>
    clear x0 x1 y0 y1 z0 z1
    obtain ⟨q9, rfl, HB9, H6⟩ := hcut
    obtain ⟨w4, rfl⟩ : ∃ W, W = wc := ⟨_, rfl⟩
    obtain ⟨n0, n1⟩ := HB9.out.cells
    go_wp2_with fail
    refine (HCP.out _).mono ?_
    rintro e w5 ⟨rfl, hb5⟩
    have H7 := Lib.hid (H6.out.here hb5)
    have HB7 := Lib.hid (HB9.out.here hb5)
    have f0 := H7.out.d.frozen 0; have f1 := H7.out.d.frozen 1
    obtain ⟨t0, t1⟩ := H7.out.d.cells
    clear n0 n1
    obtain ⟨n0, n1⟩ := HB7.out.cells
    by_cases hq0 : q < 0
    · rw [if_pos hq0] at HPL
      have hd : decide (cq < 0) = true := by rw [HZ.out]; simpa using hq0
      clear hq0 HZ
      go_wp2_with fail
      refine bodyPost_ret (v := .tuple #[.agg #[.string ⟨#[]⟩, .string ⟨#[]⟩], .int .i64 2]) (by simp [results, Tryz.results10, go_sem, t0, t1]) rfl ?_
      rw [HPO.out, HPL.out]
      exact ⟨rfl, (H7.out.bl.setCell (p := ⟨w.heap.size + 1 + 1 + 1, 0, none⟩) (by simp only; omega) _).setCell (p := ⟨w.heap.size + 1 + 1 + 1, 1, none⟩) (by simp only; omega) _⟩
    · rw [if_neg hq0] at HPL
      have hd : decide (cq < 0) = false := by rw [HZ.out]; simpa using hq0
      clear hq0 HZ
      go_wp2_with fail
      refine bodyPost_ret (v := .tuple #[.agg #[.string ⟨res.n.toArray⟩, .string ⟨res.d.toArray⟩], .int .i64 0]) (by simp [results, Tryz.results10, go_sem, t0, t1]) rfl ?_
      rw [HPO.out, HPL.out]
      exact ⟨rfl, (H7.out.bl.setCell (p := ⟨w.heap.size + 1 + 1 + 1, 0, none⟩) (by simp only; omega) _).setCell (p := ⟨w.heap.size + 1 + 1 + 1, 1, none⟩) (by simp only; omega) _⟩
  · rw [if_neg hck] at HPL
    have hckb : (ck != 0) = true := by simpa using hck
    have f0 := H5.out.d.frozen 0; have f1 := H5.out.d.frozen 1
    obtain ⟨t0, t1⟩ := H5.out.d.cells
    clear hck
    go_wp2_with fail
    refine bodyPost_ret (v := .tuple #[.agg #[.string ⟨#[]⟩, .string ⟨#[]⟩], .int .i64 ck]) (by simp [results, Tryz.results10, go_sem, t0, t1]) rfl ?_
    rw [HPO.out, HPL.out]
    exact ⟨rfl, (H5.out.bl.setCell (p := ⟨w.heap.size + 1 + 1 + 1, 0, none⟩) (by simp only; omega) _).setCell (p := ⟨w.heap.size + 1 + 1 + 1, 1, none⟩) (by simp only; omega) _⟩
set_option maxRecDepth 20000 in
set_option maxHeartbeats 1000000 in
theorem zsShare_any (p v r : Fr) (w : World) (hp2 : p.Sz 100) (hv : v.Sz 100) (hr : r.Sz 100) : Calls Tryz.prog 8 #[FrV p, FrV v, FrV r] w (QuoPost (shareL p v r) w) := by
  have H4 := Lib.hid (Fr4.new w p v r)
  obtain ⟨x0, x1⟩ := H4.out.a.cells
  obtain ⟨y0, y1⟩ := H4.out.b.cells
  obtain ⟨z0, z1⟩ := H4.out.c.cells
  have HCK := Lib.hid (fun W => zsCheck_any p v r W (hp2.more (by omega)) (hv.more (by omega)) (hr.more (by omega)))
  have hgs : (frOf (v.rat * r.rat)).Sz 201 := mul_sz hv hr (by omega)
  have HMU := Lib.hid (fun W => zMul_any v r W (hv.more (by omega)) (hr.more (by omega)))
  have HAD := Lib.hid (fun W => zAdd_any p (frOf (v.rat * r.rat)) W (hp2.more (by omega)) (hgs.more (by omega)))
  rw [rat_frOf] at HAD
  have hss : (frOf (p.rat + v.rat * r.rat)).Sz 404 := by
    have := add_sz (hp2.more (show 100 ≤ 201 by omega)) hgs (by omega)
    rwa [rat_frOf] at this
  have HQU := Lib.hid (fun W => zQuo_any (frOf (v.rat * r.rat)) (frOf (p.rat + v.rat * r.rat)) W (hgs.more (by omega)) (hss.more (by omega)))
  rw [rat_frOf, rat_frOf] at HQU
  have HPL := Lib.hid (show shareL p v r = if chkS p v r = 0 then quoL (v.rat * r.rat) (p.rat + v.rat * r.rat) else (Fr.zero, chkS p v r) from rfl)
  have HPO := Lib.hid (show QuoPost (shareL p v r) w = fun e w' => e = .returned (.tuple #[FrV (shareL p v r).1, .int .i64 (shareL p v r).2]) ∧ Below w.heap.size w w' from rfl)
  generalize QuoPost (shareL p v r) w = post at *
  generalize shareL p v r = pl at *
  generalize chkS p v r = ck at *
  generalize frOf (v.rat * r.rat) = gv_ at *
  generalize frOf (p.rat + v.rat * r.rat) = sm at *
  generalize quoL (v.rat * r.rat) (p.rat + v.rat * r.rat) = qq at *
  clear hp2 hv hr hgs hss
  unfold FrV at *
  unfold S at *
  go_enter Tryz.func8, Tryz.ntmps8
  go_upto_region 1 with (fail)
  generalize ((((w.alloc (.cells #[.string ⟨p.n.toArray⟩, .string ⟨p.d.toArray⟩] 24)).alloc (.cells #[.string ⟨v.n.toArray⟩, .string ⟨v.d.toArray⟩] 24)).alloc (.cells #[.string ⟨r.n.toArray⟩, .string ⟨r.d.toArray⟩] 24)).alloc (.cells #[.string ⟨#[]⟩, .string ⟨#[]⟩] 24)) = W at *
  go_wp2_with fail
  refine (HCK.out _).mono ?_
  rintro e w1 ⟨rfl, hb1⟩
  have H5 := Lib.hid (H4.out.here hb1)
  clear x0 x1 y0 y1 z0 z1 hb1 HCK H4
  obtain ⟨x0, x1⟩ := H5.out.a.cells
  obtain ⟨y0, y1⟩ := H5.out.b.cells
  obtain ⟨z0, z1⟩ := H5.out.c.cells
  by_cases hck : ck = 0
  · rw [if_pos hck] at HPL
    subst hck
    go_wp2_with fail
    refine (HMU.out _).mono ?_
    rintro e w2 ⟨rfl, hb2⟩
    unfold FrV S
    go_upto_region 5 with (fail)
    have hbA := (Below.refl w2.heap.size w2).alloc (Nat.le_refl _) (.cells #[.string ⟨gv_.n.toArray⟩, .string ⟨gv_.d.toArray⟩] 24)
    have H6 := Lib.hid ((H5.out.here hb2).here hbA)
    have HG6 := Lib.hid (FrB.new w2 gv_)
    have hlt : w.heap.size + 1 + 1 + 1 < w2.heap.size := (H5.out.here hb2).d.lt
    generalize w2.alloc (.cells #[.string ⟨gv_.n.toArray⟩, .string ⟨gv_.d.toArray⟩] 24) = W3 at *
    clear x0 x1 y0 y1 z0 z1 hb2 hbA HMU
    obtain ⟨x0, x1⟩ := H6.out.a.cells
    obtain ⟨y0, y1⟩ := HG6.out.cells
    go_region_held3 (fun w' => w'.cell? ⟨w.heap.size, 0, none⟩ = some (.string ⟨p.n.toArray⟩) ∧ w'.cell? ⟨w.heap.size, 1, none⟩ = some (.string ⟨p.d.toArray⟩) ∧ w'.cell? ⟨w2.heap.size, 0, none⟩ = some (.string ⟨gv_.n.toArray⟩) ∧ w'.cell? ⟨w2.heap.size, 1, none⟩ = some (.string ⟨gv_.d.toArray⟩))
      (first
        | exact ⟨(((H6.out.here hz2).a.far hq8 _).far hq8 _).cells.1, (((H6.out.here hz2).a.far hq8 _).far hq8 _).cells.2, (((HG6.out.here hz2).far hq9 _).far hq9 _).cells.1, (((HG6.out.here hz2).far hq9 _).far hq9 _).cells.2⟩
        | exact ⟨(H6.out.here hz2).a.cells.1, (H6.out.here hz2).a.cells.2, (HG6.out.here hz2).cells.1, (HG6.out.here hz2).cells.2⟩
        | exact ⟨(H6.out.here hz).a.cells.1, (H6.out.here hz).a.cells.2, (HG6.out.here hz).cells.1, (HG6.out.here hz).cells.2⟩
        | go_keep)
      (first
        | (go_at_call 22; refine (HAD.out _).mono ?_; rintro e w4 ⟨rfl, hb4⟩; unfold FrV S
           have hz : Below W3.heap.size W3 w4 := (Below.refl _ W3).drew.trans hb4)
        | (go_at_call 21; refine (HQU.out _).mono ?_; rintro e w5 ⟨rfl, hb5⟩; unfold FrV S
           have hz2 : Below W3.heap.size W3 w5 := hz.trans (hb5.mono hz.size)
           have t0 := (H6.out.here hz2).d.cells.1
           have t1 := (H6.out.here hz2).d.cells.2
           have f0 := (H6.out.here hz2).d.frozen 0
           have f1 := (H6.out.here hz2).d.frozen 1
           have hq8 : w.heap.size ≠ w.heap.size + 1 + 1 + 1 := by omega
           have hq9 : w2.heap.size ≠ w.heap.size + 1 + 1 + 1 := by omega))
    all_goals
      go_wp2_with fail
      refine bodyPost_ret (v := .tuple #[.agg #[.string ⟨qq.1.n.toArray⟩, .string ⟨qq.1.d.toArray⟩], .int .i64 qq.2]) (by simp [results, Tryz.results8, go_sem, t0, t1]) rfl ?_
      rw [HPO.out, HPL.out]
      exact ⟨rfl, ((H6.out.here hz2).bl.setCell (p := ⟨w.heap.size + 1 + 1 + 1, 0, none⟩) (by simp only; omega) _).setCell (p := ⟨w.heap.size + 1 + 1 + 1, 1, none⟩) (by simp only; omega) _⟩
  · rw [if_neg hck] at HPL
    have hckb : (ck != 0) = true := by simpa using hck
    have f0 := H5.out.d.frozen 0; have f1 := H5.out.d.frozen 1
    obtain ⟨t0, t1⟩ := H5.out.d.cells
    clear hck
    go_wp2_with fail
    refine bodyPost_ret (v := .tuple #[.agg #[.string ⟨#[]⟩, .string ⟨#[]⟩], .int .i64 ck]) (by simp [results, Tryz.results8, go_sem, t0, t1]) rfl ?_
    rw [HPO.out, HPL.out]
    exact ⟨rfl, (H5.out.bl.setCell (p := ⟨w.heap.size + 1 + 1 + 1, 0, none⟩) (by simp only; omega) _).setCell (p := ⟨w.heap.size + 1 + 1 + 1, 1, none⟩) (by simp only; omega) _⟩
end Go.Proofs.YtaiikjgoofefgaaGreatDoor
