/- Contracts of spinoff.Share and spinoff.Price. -/
import Derived.Test.YtaiikjgoofefgaaGreatDoorQG1s12
namespace Go.Proofs.YtaiikjgoofefgaaGreatDoor
open Go.RowKit Go.Shelf

/-- Three fractions in blocks of their own, and a fourth for the result. -/
structure Fr4 (w : World) (p : Nat) (f g h : Fr) (W : World) : Prop where
  a : FrB W p f
  b : FrB W (p + 1) g
  c : FrB W (p + 1 + 1) h
  d : FrB W (p + 1 + 1 + 1) Fr.zero
  bl : Below w.heap.size w W
  hp : w.heap.size ≤ p
theorem Fr4.here {w : World} {p : Nat} {f g h : Fr} {W W' : World} (H : Fr4 w p f g h W) (hb : Below W.heap.size W W') : Fr4 w p f g h W' := ⟨H.a.here hb, H.b.here hb, H.c.here hb, H.d.here hb, H.bl.trans (hb.mono H.bl.size), H.hp⟩
theorem Fr4.new (w : World) (f g h : Fr) : Fr4 w w.heap.size f g h ((((w.alloc (.cells #[.string ⟨f.n.toArray⟩, .string ⟨f.d.toArray⟩] 24)).alloc (.cells #[.string ⟨g.n.toArray⟩, .string ⟨g.d.toArray⟩] 24)).alloc (.cells #[.string ⟨h.n.toArray⟩, .string ⟨h.d.toArray⟩] 24)).alloc (.cells #[.string ⟨#[]⟩, .string ⟨#[]⟩] 24)) := by
  refine ⟨(((FrB.new w f).alloc _).alloc _).alloc _, ?_, ?_, ?_, ((((Below.refl _ _).alloc (Nat.le_refl _) _).alloc (by simp) _).alloc (by simp; omega) _).alloc (by simp; omega) _, Nat.le_refl _⟩
  · have := ((FrB.new (w.alloc (.cells #[.string ⟨f.n.toArray⟩, .string ⟨f.d.toArray⟩] 24)) g).alloc (.cells #[.string ⟨h.n.toArray⟩, .string ⟨h.d.toArray⟩] 24)).alloc (.cells #[.string ⟨#[]⟩, .string ⟨#[]⟩] 24)
    simp only [World.size_alloc] at this
    exact this
  · have := (FrB.new ((w.alloc (.cells #[.string ⟨f.n.toArray⟩, .string ⟨f.d.toArray⟩] 24)).alloc (.cells #[.string ⟨g.n.toArray⟩, .string ⟨g.d.toArray⟩] 24)) h).alloc (.cells #[.string ⟨#[]⟩, .string ⟨#[]⟩] 24)
    simp only [World.size_alloc] at this
    exact this
  · have := FrB.new (((w.alloc (.cells #[.string ⟨f.n.toArray⟩, .string ⟨f.d.toArray⟩] 24)).alloc (.cells #[.string ⟨g.n.toArray⟩, .string ⟨g.d.toArray⟩] 24)).alloc (.cells #[.string ⟨h.n.toArray⟩, .string ⟨h.d.toArray⟩] 24)) Fr.zero
    simp only [World.size_alloc] at this
    exact this
theorem Fr4.held {w : World} {p : Nat} {f g h : Fr} {W : World} (H : Fr4 w p f g h W) : W.cell? ⟨p, 0, none⟩ = some (.string ⟨f.n.toArray⟩) ∧ W.cell? ⟨p, 1, none⟩ = some (.string ⟨f.d.toArray⟩) ∧ W.cell? ⟨p + 1, 0, none⟩ = some (.string ⟨g.n.toArray⟩) ∧ W.cell? ⟨p + 1, 1, none⟩ = some (.string ⟨g.d.toArray⟩) ∧ W.cell? ⟨p + 1 + 1, 0, none⟩ = some (.string ⟨h.n.toArray⟩) ∧ W.cell? ⟨p + 1 + 1, 1, none⟩ = some (.string ⟨h.d.toArray⟩) :=
  ⟨H.a.cells.1, H.a.cells.2, H.b.cells.1, H.b.cells.2, H.c.cells.1, H.c.cells.2⟩
theorem FrB.set2 {w : World} {p : Nat} {f : Fr} (h : FrB w p f) (g : Fr) : FrB ((w.setCell ⟨p, 0, none⟩ (.string ⟨g.n.toArray⟩)).setCell ⟨p, 1, none⟩ (.string ⟨g.d.toArray⟩)) p g := by
  unfold FrB at h ⊢
  rw [heap_setCell_same _ p 1 _ 24 _ (heap_setCell_same w p 0 _ 24 _ h)]
  rfl
theorem Fr4.far2 {w : World} {p : Nat} {f g h : Fr} {W : World} (H : Fr4 w p f g h W) (q : Nat) (hq : p + 1 + 1 + 1 < q) (u v : Value) : Fr4 w p f g h ((W.setCell ⟨q, 0, none⟩ u).setCell ⟨q, 1, none⟩ v) := by
  have hp := H.hp
  exact ⟨(H.a.far (by simp only; omega) _).far (by simp only; omega) _, (H.b.far (by simp only; omega) _).far (by simp only; omega) _, (H.c.far (by simp only; omega) _).far (by simp only; omega) _, (H.d.far (by simp only; omega) _).far (by simp only; omega) _, (H.bl.setCell (by simp only; omega) _).setCell (by simp only; omega) _, H.hp⟩
def priceL (p v r : Fr) : Fr × Int := if chkS p v r = 0 then (if p.rat - v.rat * r.rat < 0 then (Fr.zero, 2) else (frOf (p.rat - v.rat * r.rat), 0)) else (Fr.zero, chkS p v r)
def shareL (p v r : Fr) : Fr × Int := if chkS p v r = 0 then quoL (v.rat * r.rat) (p.rat + v.rat * r.rat) else (Fr.zero, chkS p v r)
theorem mul_sz {f h : Fr} {L : Nat} (hf : f.Sz L) (hh : h.Sz L) (hL : 1 ≤ L) : (frOf (f.rat * h.rat)).Sz (L + L + 1) := frOf_sz (rb_mul hf hh hL)
theorem add_sz {f h : Fr} {L : Nat} (hf : f.Sz L) (hh : h.Sz L) (hL : 1 ≤ L) : (frOf (f.rat + h.rat)).Sz (L + L + 1 + 1) := frOf_sz (rb_add hf hh hL)
theorem three_sl (w : World) (p v r : Fr) : Frs (w.alloc (.cells #[.string ⟨p.n.toArray⟩, .string ⟨p.d.toArray⟩, .string ⟨v.n.toArray⟩, .string ⟨v.d.toArray⟩, .string ⟨r.n.toArray⟩, .string ⟨r.d.toArray⟩] 24)) (w.heap.size + 1) (some ⟨w.heap.size, 0, none⟩) 3 [p, v, r] :=
  Sl.lit w _ 24 [p, v, r] rfl F2_len
set_option maxRecDepth 20000 in
set_option maxHeartbeats 1000000 in
theorem Price_any (p v r : Fr) (w : World) (hp : Pow w) (hp2 : p.Sz 100) (hv : v.Sz 100) (hr : r.Sz 100) : Calls Tryz.prog 9 #[FrV p, FrV v, FrV r] w (QuoPost (priceL p v r) w) := by
  have H4 := Lib.hid (Fr4.new w p v r)
  have HP := Lib.hid hp
  obtain ⟨x0, x1⟩ := H4.out.a.cells
  obtain ⟨y0, y1⟩ := H4.out.b.cells
  obtain ⟨z0, z1⟩ := H4.out.c.cells
  have HCK := Lib.hid (fun W A c (hb : Below w.heap.size w W) hs => check_any A c p v r W (hp.here hb) (hp2.more (by omega)) (hv.more (by omega)) (hr.more (by omega)) hs)
  have hgs : (frOf (v.rat * r.rat)).Sz 201 := mul_sz hv hr (by omega)
  have HMU := Lib.hid (fun W (hb : Below w.heap.size w W) => fMul_any v r W (hp.here hb) (hv.more (by omega)) (hr.more (by omega)))
  have HSU := Lib.hid (fun W (hb : Below w.heap.size w W) => fSub_any p (frOf (v.rat * r.rat)) W (hp.here hb) (hp2.more (by omega)) (hgs.more (by omega)))
  rw [rat_frOf] at HSU
  have hss : (frOf (p.rat - v.rat * r.rat)).Sz 404 := by
    have := sub_sz (hp2.more (show 100 ≤ 201 by omega)) hgs (by omega)
    rwa [rat_frOf] at this
  have HCP := Lib.hid (fun W (hb : Below w.heap.size w W) => fCompare_any (frOf (p.rat - v.rat * r.rat)) Fr.zero W (hp.here hb) (hss.more (by omega)) ⟨by simp [Fr.zero], by simp [Fr.zero]⟩)
  rw [rat_frOf] at HCP
  have HZ := Lib.hid (cmp_zero (p.rat - v.rat * r.rat))
  have HPL := Lib.hid (show priceL p v r = if chkS p v r = 0 then (if p.rat - v.rat * r.rat < 0 then (Fr.zero, 2) else (frOf (p.rat - v.rat * r.rat), 0)) else (Fr.zero, chkS p v r) from rfl)
  have HPO := Lib.hid (show QuoPost (priceL p v r) w = fun e w' => e = .returned (.tuple #[FrV (priceL p v r).1, .int .i64 (priceL p v r).2]) ∧ Below w.heap.size w w' from rfl)
  generalize QuoPost (priceL p v r) w = post at *
  generalize priceL p v r = pl at *
  generalize chkS p v r = ck at *
  generalize frOf (v.rat * r.rat) = gv_ at *
  generalize hres : frOf (p.rat - v.rat * r.rat) = res at *
  generalize p.rat - v.rat * r.rat = q at *
  generalize cmpR q Fr.zero.rat = cq at *
  clear hp hp2 hv hr hgs hss hres
  unfold FrV at *
  unfold S at *
  go_enter Tryz.func9, Tryz.ntmps9
  go_upto_region 1 with (fail)
  generalize ((((w.alloc (.cells #[.string ⟨p.n.toArray⟩, .string ⟨p.d.toArray⟩] 24)).alloc (.cells #[.string ⟨v.n.toArray⟩, .string ⟨v.d.toArray⟩] 24)).alloc (.cells #[.string ⟨r.n.toArray⟩, .string ⟨r.d.toArray⟩] 24)).alloc (.cells #[.string ⟨#[]⟩, .string ⟨#[]⟩] 24)) = W at *
  have HSL := Lib.hid (three_sl W p v r)
  go_wp2_with fail
  refine (HCK.out _ _ _ (H4.out.bl.alloc H4.out.bl.size _) (by have := HSL.out; simpa using this)).mono ?_
  rintro e w1 ⟨rfl, hb1⟩
  have hbW1 : Below W.heap.size W w1 := ((Below.refl _ W).alloc (Nat.le_refl _) _).trans (hb1.mono (by simp))
  have H5 := Lib.hid (H4.out.here hbW1)
  clear x0 x1 y0 y1 z0 z1 hb1 HSL
  obtain ⟨x0, x1⟩ := H5.out.a.cells
  obtain ⟨y0, y1⟩ := H5.out.b.cells
  obtain ⟨z0, z1⟩ := H5.out.c.cells
  by_cases hck : ck = 0
  · rw [if_pos hck] at HPL
    subst hck
    go_upto_region 4 with (fail)
    go_cut [9] (fun s wc => ∃ q9, s = .pointer (some ⟨q9, 0, none⟩) ∧ Hid (FrB wc q9 res) ∧ Hid (Fr4 w w.heap.size p v r wc))
    case first =>
      go_region_held3 (fun w' => w'.cell? ⟨w.heap.size, 0, none⟩ = some (.string ⟨p.n.toArray⟩) ∧ w'.cell? ⟨w.heap.size, 1, none⟩ = some (.string ⟨p.d.toArray⟩) ∧ w'.cell? ⟨w.heap.size + 1, 0, none⟩ = some (.string ⟨v.n.toArray⟩) ∧ w'.cell? ⟨w.heap.size + 1, 1, none⟩ = some (.string ⟨v.d.toArray⟩) ∧ w'.cell? ⟨w.heap.size + 1 + 1, 0, none⟩ = some (.string ⟨r.n.toArray⟩) ∧ w'.cell? ⟨w.heap.size + 1 + 1, 1, none⟩ = some (.string ⟨r.d.toArray⟩))
        (first
          | exact ((H5.out.here hz2).far2 _ hq9 _ _).held
          | exact ((H5.out.here hz2).here ((Below.refl _ _).alloc (Nat.le_refl _) _)).held
          | exact (H5.out.here hz2).held
          | exact ((H5.out.here hz).here ((Below.refl _ _).alloc (Nat.le_refl _) _)).held
          | exact (H5.out.here hz).held
          | go_keep)
        (first
          | (go_at_call 11; refine (HMU.out _ (by first | exact (H5.out.here (Below.refl _ w1).drew).bl | exact (H5.out.here ((Below.refl _ w1).alloc (Nat.le_refl _) _).drew).bl)).mono ?_; rintro e w2 ⟨rfl, hb2⟩; unfold FrV S
             have hz : Below w1.heap.size w1 w2 := by first | exact (Below.refl _ w1).drew.trans hb2 | exact ((Below.refl _ w1).alloc (Nat.le_refl _) _).drew.trans (hb2.mono (by simp))
             first | (have hq1 : FrB w2 w1.heap.size Fr.zero := FrB.here (w := (w1.alloc (.cells #[.string ⟨#[]⟩, .string ⟨#[]⟩] 24)).drew) (FrB.new w1 Fr.zero) hb2) | skip)
          | (go_at_call 23; refine (HSU.out _ (by first | exact (H5.out.here hz).bl | exact ((H5.out.here hz).here ((Below.refl _ _).alloc (Nat.le_refl _) _)).bl)).mono ?_; rintro e w3 ⟨rfl, hb3⟩; unfold FrV S
             have hz2 : Below w1.heap.size w1 w3 := by first | exact hz.trans (hb3.mono hz.size) | exact (hz.alloc hz.size _).trans (hb3.mono (by have := hz.size; simp; omega))
             first
               | (have hq2 : FrB w3 w1.heap.size Fr.zero := hq1.here hb3; have n0 := hq2.cells.1; have n1 := hq2.cells.2; have g0 := hq2.frozen 0; have g1 := hq2.frozen 1; have hq9 : w.heap.size + 1 + 1 + 1 < w1.heap.size := H5.out.d.lt)
               | (have hq2 : FrB w3 w2.heap.size Fr.zero := FrB.here (w := w2.alloc (.cells #[.string ⟨#[]⟩, .string ⟨#[]⟩] 24)) (FrB.new w2 Fr.zero) hb3; have n0 := hq2.cells.1; have n1 := hq2.cells.2; have g0 := hq2.frozen 0; have g1 := hq2.frozen 1; have hq9 : w.heap.size + 1 + 1 + 1 < w2.heap.size := (H5.out.here hz).d.lt)
               | skip))
      all_goals
        go_wp2_with fail
        go_meet
        first
          | exact ⟨_, rfl, hq2.set2 res, (H5.out.here hz2).far2 _ hq9 _ _⟩
          | exact ⟨_, rfl, FrB.new w3 res, (H5.out.here hz2).here ((Below.refl _ _).alloc (Nat.le_refl _) _)⟩
    case rest =>
    clear x0 x1 y0 y1 z0 z1
    obtain ⟨q9, rfl, HB9, H6⟩ := hcut
    obtain ⟨w4, rfl⟩ : ∃ W, W = wc := ⟨_, rfl⟩
    obtain ⟨n0, n1⟩ := HB9.out.cells
    go_wp2_with fail
    refine (HCP.out _ H6.out.bl).mono ?_
    rintro e w5 ⟨rfl, hb5⟩
    have H7 := Lib.hid (H6.out.here hb5)
    have HB7 := Lib.hid (HB9.out.here hb5)
    have f0 := H7.out.d.frozen 0; have f1 := H7.out.d.frozen 1
    obtain ⟨t0, t1⟩ := H7.out.d.cells
    clear n0 n1
    obtain ⟨n0, n1⟩ := HB7.out.cells
    by_cases hq0 : q < 0
    · rw [if_pos hq0] at HPL
      have hd : decide (cq < 0) = true := by rw [HZ.out]; simpa using hq0
      clear hq0 HZ
      go_wp2_with fail
      refine bodyPost_ret (v := .tuple #[.agg #[.string ⟨#[]⟩, .string ⟨#[]⟩], .int .i64 2]) (by simp [results, Tryz.results9, go_sem, t0, t1]) rfl ?_
      rw [HPO.out, HPL.out]
      exact ⟨rfl, (H7.out.bl.setCell (p := ⟨w.heap.size + 1 + 1 + 1, 0, none⟩) (by simp only; omega) _).setCell (p := ⟨w.heap.size + 1 + 1 + 1, 1, none⟩) (by simp only; omega) _⟩
    · rw [if_neg hq0] at HPL
      have hd : decide (cq < 0) = false := by rw [HZ.out]; simpa using hq0
      clear hq0 HZ
      go_wp2_with fail
      refine bodyPost_ret (v := .tuple #[.agg #[.string ⟨res.n.toArray⟩, .string ⟨res.d.toArray⟩], .int .i64 0]) (by simp [results, Tryz.results9, go_sem, t0, t1]) rfl ?_
      rw [HPO.out, HPL.out]
      exact ⟨rfl, (H7.out.bl.setCell (p := ⟨w.heap.size + 1 + 1 + 1, 0, none⟩) (by simp only; omega) _).setCell (p := ⟨w.heap.size + 1 + 1 + 1, 1, none⟩) (by simp only; omega) _⟩
  · rw [if_neg hck] at HPL
    have hckb : (ck != 0) = true := by simpa using hck
    have f0 := H5.out.d.frozen 0; have f1 := H5.out.d.frozen 1
    obtain ⟨t0, t1⟩ := H5.out.d.cells
    clear hck
    go_wp2_with fail
    refine bodyPost_ret (v := .tuple #[.agg #[.string ⟨#[]⟩, .string ⟨#[]⟩], .int .i64 ck]) (by simp [results, Tryz.results9, go_sem, t0, t1]) rfl ?_
    rw [HPO.out, HPL.out]
    exact ⟨rfl, (H5.out.bl.setCell (p := ⟨w.heap.size + 1 + 1 + 1, 0, none⟩) (by simp only; omega) _).setCell (p := ⟨w.heap.size + 1 + 1 + 1, 1, none⟩) (by simp only; omega) _⟩
end Go.Proofs.YtaiikjgoofefgaaGreatDoor
