/- The walk of SpinoffShares. -/
import Derived.Test.YtaiikjgoofefgaaGreatDoorRS2qG1s
namespace Go.Proofs.YtaiikjgoofefgaaGreatDoor
open Go.RowKit Go.Shelf

set_option maxRecDepth 100000 in
set_option maxHeartbeats 2000000 in
theorem shares_law (b v r : Fr) (w : World) (hp : Pow w) (hl : ∀ x ∈ [b, v, r], x.n.length ≤ maxLen ∧ x.d.length ≤ maxLen) : Calls Tryz.prog 3 #[FrV b, FrV v, FrV r] w (TruePost w) := by
  have H3 := Lib.hid (FrT.new w b v r)
  have HP := Lib.hid hp; have HL := Lib.hid hl
  obtain ⟨x0, x1⟩ := H3.out.a.cells
  obtain ⟨y0, y1⟩ := H3.out.b.cells
  obtain ⟨z0, z1⟩ := H3.out.c.cells
  have HPO := Lib.hid (show TruePost w = fun e w' => e = .returned (.bool true) ∧ Below w.heap.size w w' from rfl)
  have HAW := Lib.hid (fun W (hb : Below w.heap.size w W) => awake_any W (hp.here hb))
  generalize TruePost w = post at *
  clear hp hl
  unfold FrV at *
  unfold S at *
  go_enter Tryz.func3, Tryz.ntmps3
  go_upto_region 1 with (fail)
  generalize (((w.alloc (.cells #[.string ⟨b.n.toArray⟩, .string ⟨b.d.toArray⟩] 24)).alloc (.cells #[.string ⟨v.n.toArray⟩, .string ⟨v.d.toArray⟩] 24)).alloc (.cells #[.string ⟨r.n.toArray⟩, .string ⟨r.d.toArray⟩] 24)) = W at *
  have HSL := Lib.hid (three_sl W b v r)
  have HLO := Lib.hid (fun c => long_any (some ⟨W.heap.size, 0, none⟩) c b v r (W.alloc (.cells #[.string ⟨b.n.toArray⟩, .string ⟨b.d.toArray⟩, .string ⟨v.n.toArray⟩, .string ⟨v.d.toArray⟩, .string ⟨r.n.toArray⟩, .string ⟨r.d.toArray⟩] 24)) (by have := HSL.out; simpa using this) HL.out)
  have HSZ := Lib.hid (show (longF b || longF v || longF r) = false → b.Sz 10 ∧ v.Sz 10 ∧ r.Sz 10 by
    intro h
    simp only [Bool.or_eq_false_iff] at h
    exact ⟨longF_no h.1.1, longF_no h.1.2, longF_no h.2⟩)
  generalize (longF b || longF v || longF r) = lg at *
  go_wp2_with fail
  refine (HLO.out _).mono ?_
  rintro e w1 ⟨rfl, hb1⟩
  have hbW1 : Below W.heap.size W w1 := ((Below.refl _ W).alloc (Nat.le_refl _) _).trans (hb1.mono (by simp))
  have H4 := Lib.hid (H3.out.here hbW1)
  clear x0 x1 y0 y1 z0 z1 hb1 HSL HLO HL
  obtain ⟨x0, x1⟩ := H4.out.a.cells
  obtain ⟨y0, y1⟩ := H4.out.b.cells
  obtain ⟨z0, z1⟩ := H4.out.c.cells
  cases lg with
  | true =>
    clear HSZ
    go_wp2_with fail
    refine (HAW.out _ H4.out.bl).mono ?_
    rintro e w2 ⟨rfl, hb2⟩
    go_wp2_with fail
    rw [HPO.out]
    exact ⟨rfl, (H4.out.here hb2).bl⟩
  | false =>
    obtain ⟨sb, sv_, sr⟩ := HSZ.out rfl
    have HSH := Lib.hid (fun W (hb : Below w.heap.size w W) => Share_any b v r W (HP.out.here hb) (sb.more (by omega)) (sv_.more (by omega)) (sr.more (by omega)))
    have HZS := Lib.hid (fun W => zsShare_any b v r W (sb.more (by omega)) (sv_.more (by omega)) (sr.more (by omega)))
    have HPR := Lib.hid (fun W (hb : Below w.heap.size w W) => Price_any b v r W (HP.out.here hb) (sb.more (by omega)) (sv_.more (by omega)) (sr.more (by omega)))
    have HZP := Lib.hid (fun W => zsPrice_any b v r W (sb.more (by omega)) (sv_.more (by omega)) (sr.more (by omega)))
    clear HSZ sb sv_ sr
    generalize priceL b v r = pl at *
    generalize shareL b v r = sl at *
    obtain ⟨pf, pe⟩ := pl
    obtain ⟨sf, se⟩ := sl
    have G0 := H4
    clear H4
    unfold FrV at *
    unfold S at *
    go_wp2_with fail
    refine (HSH.out _ G0.out.bl).mono ?_
    rintro e v1 ⟨rfl, hb⟩
    unfold FrV S
    have hbA := (Below.refl v1.heap.size v1).alloc (Nat.le_refl _) (.cells #[.string ⟨sf.n.toArray⟩, .string ⟨sf.d.toArray⟩] 24)
    have G1 := Lib.hid ((G0.out.here hb).here hbA)
    have B11 := Lib.hid (FrB.new v1 sf)
    clear x0 x1 y0 y1 z0 z1 hb hbA
    obtain ⟨x0, x1⟩ := G1.out.a.cells
    obtain ⟨y0, y1⟩ := G1.out.b.cells
    obtain ⟨z0, z1⟩ := G1.out.c.cells
    go_wp2_with fail
    generalize v1.alloc (.cells #[.string ⟨sf.n.toArray⟩, .string ⟨sf.d.toArray⟩] 24) = W2 at *
    refine (HZS.out _).mono ?_
    rintro e v2 ⟨rfl, hb⟩
    unfold FrV S
    have hbA := (Below.refl v2.heap.size v2).alloc (Nat.le_refl _) (.cells #[.string ⟨sf.n.toArray⟩, .string ⟨sf.d.toArray⟩] 24)
    have G2 := Lib.hid ((G1.out.here hb).here hbA)
    have B12 := Lib.hid ((B11.out.here hb).here hbA)
    have B22 := Lib.hid (FrB.new v2 sf)
    clear x0 x1 y0 y1 z0 z1 hb hbA
    obtain ⟨x0, x1⟩ := G2.out.a.cells
    obtain ⟨y0, y1⟩ := G2.out.b.cells
    obtain ⟨z0, z1⟩ := G2.out.c.cells
    go_wp2_with fail
    generalize v2.alloc (.cells #[.string ⟨sf.n.toArray⟩, .string ⟨sf.d.toArray⟩] 24) = W3 at *
    refine (HPR.out _ G2.out.bl).mono ?_
    rintro e v3 ⟨rfl, hb⟩
    unfold FrV S
    have hbA := (Below.refl v3.heap.size v3).alloc (Nat.le_refl _) (.cells #[.string ⟨pf.n.toArray⟩, .string ⟨pf.d.toArray⟩] 24)
    have G3 := Lib.hid ((G2.out.here hb).here hbA)
    have B13 := Lib.hid ((B12.out.here hb).here hbA)
    have B23 := Lib.hid ((B22.out.here hb).here hbA)
    have B33 := Lib.hid (FrB.new v3 pf)
    clear x0 x1 y0 y1 z0 z1 hb hbA
    obtain ⟨x0, x1⟩ := G3.out.a.cells
    obtain ⟨y0, y1⟩ := G3.out.b.cells
    obtain ⟨z0, z1⟩ := G3.out.c.cells
    go_wp2_with fail
    generalize v3.alloc (.cells #[.string ⟨pf.n.toArray⟩, .string ⟨pf.d.toArray⟩] 24) = W4 at *
    refine (HZP.out _).mono ?_
    rintro e v4 ⟨rfl, hb⟩
    unfold FrV S
    have hbA := (Below.refl v4.heap.size v4).alloc (Nat.le_refl _) (.cells #[.string ⟨pf.n.toArray⟩, .string ⟨pf.d.toArray⟩] 24)
    have G4 := Lib.hid ((G3.out.here hb).here hbA)
    have B14 := Lib.hid ((B13.out.here hb).here hbA)
    have B24 := Lib.hid ((B23.out.here hb).here hbA)
    have B34 := Lib.hid ((B33.out.here hb).here hbA)
    have B44 := Lib.hid (FrB.new v4 pf)
    clear x0 x1 y0 y1 z0 z1 hb hbA
    obtain ⟨x0, x1⟩ := G4.out.a.cells
    obtain ⟨y0, y1⟩ := G4.out.b.cells
    obtain ⟨z0, z1⟩ := G4.out.c.cells
    obtain ⟨a0, a1⟩ := B14.out.cells
    obtain ⟨b0, b1⟩ := B24.out.cells
    obtain ⟨c0, c1⟩ := B34.out.cells
    obtain ⟨d0, d1⟩ := B44.out.cells
    have hsn : (sf.n == sf.n) = true := by simp
    have hsd : (sf.d == sf.d) = true := by simp
    have hpn : (pf.n == pf.n) = true := by simp
    have hpd : (pf.d == pf.d) = true := by simp
    go_wp2_with fail
    generalize v4.alloc (.cells #[.string ⟨pf.n.toArray⟩, .string ⟨pf.d.toArray⟩] 24) = W5 at *
    refine (HAW.out _ G4.out.bl).mono ?_
    rintro e v5 ⟨rfl, hb5⟩
    go_wp2_with fail
    rw [HPO.out]
    exact ⟨rfl, (G4.out.here hb5).bl⟩
end Go.Proofs.YtaiikjgoofefgaaGreatDoor
