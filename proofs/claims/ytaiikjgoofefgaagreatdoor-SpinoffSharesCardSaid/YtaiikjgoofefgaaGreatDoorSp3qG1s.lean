/- Contract of spinoff.Share. -/
import Derived.Test.YtaiikjgoofefgaaGreatDoorSp2qG1s
namespace Go.Proofs.YtaiikjgoofefgaaGreatDoor
open Go.RowKit Go.Shelf

theorem quoL_case (x y : Rat) : (y = 0 ∧ quoL x y = (Fr.zero, 10)) ∨ (y ≠ 0 ∧ quoL x y = (frOf (x / y), 0)) := by
  unfold quoL
  by_cases h : y = 0
  · exact .inl ⟨h, if_pos h⟩
  · exact .inr ⟨h, if_neg h⟩
set_option maxRecDepth 20000 in
set_option maxHeartbeats 1000000 in
theorem Share_any (p v r : Fr) (w : World) (hp : Pow w) (hp2 : p.Sz 100) (hv : v.Sz 100) (hr : r.Sz 100) : Calls Tryz.prog 7 #[FrV p, FrV v, FrV r] w (QuoPost (shareL p v r) w) := by
  have H4 := Lib.hid (Fr4.new w p v r)
  have HP := Lib.hid hp
  obtain ⟨x0, x1⟩ := H4.out.a.cells
  obtain ⟨y0, y1⟩ := H4.out.b.cells
  obtain ⟨z0, z1⟩ := H4.out.c.cells
  have HCK := Lib.hid (fun W A c (hb : Below w.heap.size w W) hs => check_any A c p v r W (hp.here hb) (hp2.more (by omega)) (hv.more (by omega)) (hr.more (by omega)) hs)
  have hgs : (frOf (v.rat * r.rat)).Sz 201 := mul_sz hv hr (by omega)
  have HMU := Lib.hid (fun W (hb : Below w.heap.size w W) => fMul_any v r W (hp.here hb) (hv.more (by omega)) (hr.more (by omega)))
  have HAD := Lib.hid (fun W (hb : Below w.heap.size w W) => fAdd_any p (frOf (v.rat * r.rat)) W (hp.here hb) (hp2.more (by omega)) (hgs.more (by omega)))
  rw [rat_frOf] at HAD
  have hss : (frOf (p.rat + v.rat * r.rat)).Sz 404 := by
    have := add_sz (hp2.more (show 100 ≤ 201 by omega)) hgs (by omega)
    rwa [rat_frOf] at this
  have HQU := Lib.hid (fun W (hb : Below w.heap.size w W) => fQuo_any (frOf (v.rat * r.rat)) (frOf (p.rat + v.rat * r.rat)) W (hp.here hb) (hgs.more (by omega)) (hss.more (by omega)))
  rw [rat_frOf, rat_frOf] at HQU
  have HQC := Lib.hid (quoL_case (v.rat * r.rat) (p.rat + v.rat * r.rat))
  have HPL := Lib.hid (show shareL p v r = if chkS p v r = 0 then quoL (v.rat * r.rat) (p.rat + v.rat * r.rat) else (Fr.zero, chkS p v r) from rfl)
  have HPO := Lib.hid (show QuoPost (shareL p v r) w = fun e w' => e = .returned (.tuple #[FrV (shareL p v r).1, .int .i64 (shareL p v r).2]) ∧ Below w.heap.size w w' from rfl)
  generalize QuoPost (shareL p v r) w = post at *
  generalize shareL p v r = pl at *
  generalize chkS p v r = ck at *
  generalize frOf (v.rat * r.rat) = gv_ at *
  generalize frOf (p.rat + v.rat * r.rat) = sm at *
  generalize hqq : quoL (v.rat * r.rat) (p.rat + v.rat * r.rat) = qq at *
  obtain ⟨res, qe⟩ := qq
  have HQE := Lib.hid (show (qe = 0) ∨ (qe = 10 ∧ res = Fr.zero) by
    rcases HQC.out with ⟨_, h⟩ | ⟨_, h⟩
    · injection h with h1 h2; exact .inr ⟨h2, h1⟩
    · injection h with h1 h2; exact .inl h2)
  clear hp hp2 hv hr hgs hss hqq HQC
  unfold FrV at *
  unfold S at *
  go_enter Tryz.func7, Tryz.ntmps7
  go_upto_region 1 with (fail)
  generalize ((((w.alloc (.cells #[.string ⟨p.n.toArray⟩, .string ⟨p.d.toArray⟩] 24)).alloc (.cells #[.string ⟨v.n.toArray⟩, .string ⟨v.d.toArray⟩] 24)).alloc (.cells #[.string ⟨r.n.toArray⟩, .string ⟨r.d.toArray⟩] 24)).alloc (.cells #[.string ⟨#[]⟩, .string ⟨#[]⟩] 24)) = W at *
  have HSL := Lib.hid (three_sl W p v r)
  go_wp2_with fail
  refine (HCK.out _ _ _ (H4.out.bl.alloc H4.out.bl.size _) (by have := HSL.out; simpa using this)).mono ?_
  rintro e w1 ⟨rfl, hb1⟩
  have hbW1 : Below W.heap.size W w1 := ((Below.refl _ W).alloc (Nat.le_refl _) _).trans (hb1.mono (by simp))
  have H5 := Lib.hid (H4.out.here hbW1)
  clear x0 x1 y0 y1 z0 z1 hb1 HSL
  obtain ⟨x0, x1⟩ := H5.out.a.cells
  obtain ⟨y0, y1⟩ := H5.out.b.cells
  obtain ⟨z0, z1⟩ := H5.out.c.cells
  by_cases hck : ck = 0
  · rw [if_pos hck] at HPL
    subst hck
    go_wp2_with fail
    refine (HMU.out _ H5.out.bl).mono ?_
    rintro e w2 ⟨rfl, hb2⟩
    unfold FrV S
    go_upto_region 5 with (fail)
    have hbA := (Below.refl w2.heap.size w2).alloc (Nat.le_refl _) (.cells #[.string ⟨gv_.n.toArray⟩, .string ⟨gv_.d.toArray⟩] 24)
    have H6 := Lib.hid ((H5.out.here hb2).here hbA)
    have HG6 := Lib.hid (FrB.new w2 gv_)
    have hlt : w.heap.size + 1 + 1 + 1 < w2.heap.size := (H5.out.here hb2).d.lt
    generalize w2.alloc (.cells #[.string ⟨gv_.n.toArray⟩, .string ⟨gv_.d.toArray⟩] 24) = W3 at *
    clear x0 x1 y0 y1 z0 z1 hb2 hbA
    obtain ⟨x0, x1⟩ := H6.out.a.cells
    obtain ⟨y0, y1⟩ := HG6.out.cells
    go_cut [10, 11] (fun s t wc => ∃ q9, s = .pointer (some ⟨q9, 0, none⟩) ∧ t = .int .i64 qe ∧ Hid (FrB wc q9 res) ∧ Hid (Fr4 w w.heap.size p v r wc))
    case first =>
      go_region_held3 (fun w' => w'.cell? ⟨w.heap.size, 0, none⟩ = some (.string ⟨p.n.toArray⟩) ∧ w'.cell? ⟨w.heap.size, 1, none⟩ = some (.string ⟨p.d.toArray⟩) ∧ w'.cell? ⟨w2.heap.size, 0, none⟩ = some (.string ⟨gv_.n.toArray⟩) ∧ w'.cell? ⟨w2.heap.size, 1, none⟩ = some (.string ⟨gv_.d.toArray⟩))
        (first
          | exact ⟨((H6.out.here hz2).far2 _ hq9 _ _).a.cells.1, ((H6.out.here hz2).far2 _ hq9 _ _).a.cells.2, (((HG6.out.here hz2).far hq8 _).far hq8 _).cells.1, (((HG6.out.here hz2).far hq8 _).far hq8 _).cells.2⟩
          | exact ⟨((H6.out.here hz2).here ((Below.refl _ _).alloc (Nat.le_refl _) _)).a.cells.1, ((H6.out.here hz2).here ((Below.refl _ _).alloc (Nat.le_refl _) _)).a.cells.2, ((HG6.out.here hz2).here ((Below.refl _ _).alloc (Nat.le_refl _) _)).cells.1, ((HG6.out.here hz2).here ((Below.refl _ _).alloc (Nat.le_refl _) _)).cells.2⟩
          | exact ⟨(H6.out.here hz2).a.cells.1, (H6.out.here hz2).a.cells.2, (HG6.out.here hz2).cells.1, (HG6.out.here hz2).cells.2⟩
          | exact ⟨((H6.out.here hz).here ((Below.refl _ _).alloc (Nat.le_refl _) _)).a.cells.1, ((H6.out.here hz).here ((Below.refl _ _).alloc (Nat.le_refl _) _)).a.cells.2, ((HG6.out.here hz).here ((Below.refl _ _).alloc (Nat.le_refl _) _)).cells.1, ((HG6.out.here hz).here ((Below.refl _ _).alloc (Nat.le_refl _) _)).cells.2⟩
          | exact ⟨(H6.out.here hz).a.cells.1, (H6.out.here hz).a.cells.2, (HG6.out.here hz).cells.1, (HG6.out.here hz).cells.2⟩
          | go_keep)
        (first
          | (go_at_call 12; refine (HAD.out _ (by first | exact (H6.out.here (Below.refl _ W3).drew).bl | exact (H6.out.here ((Below.refl _ W3).alloc (Nat.le_refl _) _).drew).bl)).mono ?_; rintro e w4 ⟨rfl, hb4⟩; unfold FrV S
             have hz : Below W3.heap.size W3 w4 := by first | exact (Below.refl _ W3).drew.trans hb4 | exact ((Below.refl _ W3).alloc (Nat.le_refl _) _).drew.trans (hb4.mono (by simp))
             first | (have hq1 : FrB w4 W3.heap.size Fr.zero := FrB.here (w := (W3.alloc (.cells #[.string ⟨#[]⟩, .string ⟨#[]⟩] 24)).drew) (FrB.new W3 Fr.zero) hb4) | skip)
          | (go_at_call 13; refine (HQU.out _ (by first | exact (H6.out.here hz).bl | exact ((H6.out.here hz).here ((Below.refl _ _).alloc (Nat.le_refl _) _)).bl)).mono ?_; rintro e w5 ⟨rfl, hb5⟩; unfold FrV S
             have hz2 : Below W3.heap.size W3 w5 := by first | exact hz.trans (hb5.mono hz.size) | exact (hz.alloc hz.size _).trans (hb5.mono (by have := hz.size; simp; omega))
             first
               | (have hq2 : FrB w5 W3.heap.size Fr.zero := hq1.here hb5; have n0 := hq2.cells.1; have n1 := hq2.cells.2; have g0 := hq2.frozen 0; have g1 := hq2.frozen 1; have hq9 : w.heap.size + 1 + 1 + 1 < W3.heap.size := H6.out.d.lt; have hq8 : w2.heap.size ≠ W3.heap.size := by have := HG6.out.lt; omega)
               | (have hq2 : FrB w5 w4.heap.size Fr.zero := FrB.here (w := w4.alloc (.cells #[.string ⟨#[]⟩, .string ⟨#[]⟩] 24)) (FrB.new w4 Fr.zero) hb5; have n0 := hq2.cells.1; have n1 := hq2.cells.2; have g0 := hq2.frozen 0; have g1 := hq2.frozen 1; have hq9 : w.heap.size + 1 + 1 + 1 < w4.heap.size := (H6.out.here hz).d.lt; have hq8 : w2.heap.size ≠ w4.heap.size := by have := (HG6.out.here hz).lt; omega)
               | skip))
      all_goals
        go_wp2_with fail
        go_meet
        first
          | exact ⟨_, rfl, rfl, hq2.set2 res, (H6.out.here hz2).far2 _ hq9 _ _⟩
          | exact ⟨_, rfl, rfl, FrB.new w5 res, (H6.out.here hz2).here ((Below.refl _ _).alloc (Nat.le_refl _) _)⟩
    case rest =>
    clear x0 x1 y0 y1
    obtain ⟨q9, rfl, rfl, HB9, H7⟩ := hcut
    obtain ⟨w6, rfl⟩ : ∃ W, W = wc := ⟨_, rfl⟩
    obtain ⟨n0, n1⟩ := HB9.out.cells
    have f0 := H7.out.d.frozen 0; have f1 := H7.out.d.frozen 1
    obtain ⟨t0, t1⟩ := H7.out.d.cells
    rcases HQE.out with hq0 | ⟨hq0, hz0⟩
    · subst hq0
      go_wp2_with fail
      refine bodyPost_ret (v := .tuple #[.agg #[.string ⟨res.n.toArray⟩, .string ⟨res.d.toArray⟩], .int .i64 0]) (by simp [results, Tryz.results7, go_sem, t0, t1]) rfl ?_
      rw [HPO.out, HPL.out]
      exact ⟨rfl, (H7.out.bl.setCell (p := ⟨w.heap.size + 1 + 1 + 1, 0, none⟩) (by simp only; omega) _).setCell (p := ⟨w.heap.size + 1 + 1 + 1, 1, none⟩) (by simp only; omega) _⟩
    · subst hq0; subst hz0
      go_wp2_with fail
      refine bodyPost_ret (v := .tuple #[.agg #[.string ⟨#[]⟩, .string ⟨#[]⟩], .int .i64 10]) (by simp [results, Tryz.results7, go_sem, t0, t1]) rfl ?_
      rw [HPO.out, HPL.out]
      exact ⟨rfl, (H7.out.bl.setCell (p := ⟨w.heap.size + 1 + 1 + 1, 0, none⟩) (by simp only; omega) _).setCell (p := ⟨w.heap.size + 1 + 1 + 1, 1, none⟩) (by simp only; omega) _⟩
  · rw [if_neg hck] at HPL
    have hckb : (ck != 0) = true := by simpa using hck
    have f0 := H5.out.d.frozen 0; have f1 := H5.out.d.frozen 1
    obtain ⟨t0, t1⟩ := H5.out.d.cells
    clear hck
    go_wp2_with fail
    refine bodyPost_ret (v := .tuple #[.agg #[.string ⟨#[]⟩, .string ⟨#[]⟩], .int .i64 ck]) (by simp [results, Tryz.results7, go_sem, t0, t1]) rfl ?_
    rw [HPO.out, HPL.out]
    exact ⟨rfl, (H5.out.bl.setCell (p := ⟨w.heap.size + 1 + 1 + 1, 0, none⟩) (by simp only; omega) _).setCell (p := ⟨w.heap.size + 1 + 1 + 1, 1, none⟩) (by simp only; omega) _⟩
end Go.Proofs.YtaiikjgoofefgaaGreatDoor
