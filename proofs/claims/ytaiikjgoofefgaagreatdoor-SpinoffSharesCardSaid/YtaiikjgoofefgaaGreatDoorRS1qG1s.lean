/- The reference's layer 28: check, Share, Price. -/
import Derived.Test.YtaiikjgoofefgaaGreatDoorRF3qG1s
import Derived.Test.YtaiikjgoofefgaaGreatDoorQG1s13
namespace Go.Proofs.YtaiikjgoofefgaaGreatDoor
open Go.RowKit Go.Shelf

theorem cmp0_cases (x : Rat) : (x < 0 ∧ cmpR x Fr.zero.rat = -1) ∨ (¬ x < 0 ∧ x = 0 ∧ cmpR x Fr.zero.rat = 0) ∨ (¬ x < 0 ∧ x ≠ 0 ∧ cmpR x Fr.zero.rat = 1) := by
  rw [rat_zero]
  unfold cmpR
  by_cases h : x < 0
  · exact .inl ⟨h, by rw [if_pos h]⟩
  · by_cases h2 : x = 0
    · exact .inr (.inl ⟨h, h2, by rw [if_neg h, if_neg]; rw [h2]; exact Rat.lt_irrefl⟩)
    · exact .inr (.inr ⟨h, h2, by rw [if_neg h, if_pos]; exact Rat.lt_of_le_of_ne (Rat.not_lt.1 h) (fun e => h2 e.symm)⟩)
theorem ok_zero {r : Fr} (h : r.ok) : r = Fr.zero ↔ r.rat = 0 := by
  constructor
  · intro e; rw [e, rat_zero]
  · intro e; unfold Fr.ok at h; rw [h, e]; rfl
theorem chkS_bad {p v r : Fr} (h : ¬ (p.ok ∧ v.ok ∧ r.ok)) : chkS p v r = 1 := if_neg h
theorem chkS_neg {p v r : Fr} (h : p.ok ∧ v.ok ∧ r.ok) (h2 : p.rat < 0 ∨ v.rat < 0 ∨ r.rat < 0 ∨ r.rat = 0) : chkS p v r = 2 := by
  unfold chkS
  rw [if_pos h, if_pos]
  rw [ok_zero h.2.2]
  exact h2
theorem chkS_ok {p v r : Fr} (h : p.ok ∧ v.ok ∧ r.ok) (h2 : ¬ p.rat < 0 ∧ ¬ v.rat < 0 ∧ ¬ r.rat < 0 ∧ r.rat ≠ 0) : chkS p v r = 0 := by
  unfold chkS
  rw [if_pos h, if_neg]
  rw [ok_zero h.2.2]
  simp only [not_or]
  exact h2
theorem ok_cases (p v r : Fr) : (chkF p = 1 ∧ ¬ (p.ok ∧ v.ok ∧ r.ok)) ∨ (chkF p = 0 ∧ chkF v = 1 ∧ ¬ (p.ok ∧ v.ok ∧ r.ok)) ∨ (chkF p = 0 ∧ chkF v = 0 ∧ chkF r = 1 ∧ ¬ (p.ok ∧ v.ok ∧ r.ok)) ∨ (chkF p = 0 ∧ chkF v = 0 ∧ chkF r = 0 ∧ p.ok ∧ v.ok ∧ r.ok) := by
  unfold chkF
  by_cases h1 : p.ok
  · by_cases h2 : v.ok
    · by_cases h3 : r.ok
      · exact .inr (.inr (.inr ⟨if_pos h1, if_pos h2, if_pos h3, h1, h2, h3⟩))
      · exact .inr (.inr (.inl ⟨if_pos h1, if_pos h2, if_neg h3, fun h => h3 h.2.2⟩))
    · exact .inr (.inl ⟨if_pos h1, if_neg h2, fun h => h2 h.2.1⟩)
  · exact .inl ⟨if_neg h1, fun h => h1 h.1⟩
theorem Fr.zero_sz (L : Nat) : Fr.zero.Sz L := ⟨Nat.zero_le _, Nat.zero_le _⟩
set_option maxRecDepth 20000 in
set_option maxHeartbeats 2000000 in
theorem zsCheck_any (p v r : Fr) (w : World) (hp : p.Sz 20000) (hv : v.Sz 20000) (hr : r.Sz 20000) : Calls Tryz.prog 19 #[FrV p, FrV v, FrV r] w (CmpIPost (chkS p v r) w) := by
  have H3 := Lib.hid (FrT.new w p v r)
  have HCP := Lib.hid (fun W => zCheck_any p W (hp.more (by omega)))
  have HCV := Lib.hid (fun W => zCheck_any v W (hv.more (by omega)))
  have HCR := Lib.hid (fun W => zCheck_any r W (hr.more (by omega)))
  have HMP := Lib.hid (fun W => zCompare_any p Fr.zero W hp (Fr.zero_sz _))
  have HMV := Lib.hid (fun W => zCompare_any v Fr.zero W hv (Fr.zero_sz _))
  have HMR := Lib.hid (fun W => zCompare_any r Fr.zero W hr (Fr.zero_sz _))
  have HPO := Lib.hid (show CmpIPost (chkS p v r) w = fun e w' => e = .returned (.int .i64 (chkS p v r)) ∧ Below w.heap.size w w' from rfl)
  have HBAD := Lib.hid (fun h => chkS_bad (p := p) (v := v) (r := r) h)
  have HNEG := Lib.hid (fun h h2 => chkS_neg (p := p) (v := v) (r := r) h h2)
  have HOK := Lib.hid (fun h h2 => chkS_ok (p := p) (v := v) (r := r) h h2)
  have HCS := Lib.hid (ok_cases p v r)
  generalize CmpIPost (chkS p v r) w = post at *
  generalize chkS p v r = ck at *
  clear hp hv hr
  obtain ⟨x0, x1⟩ := H3.out.a.cells
  obtain ⟨y0, y1⟩ := H3.out.b.cells
  obtain ⟨z0, z1⟩ := H3.out.c.cells
  unfold FrV at *
  unfold S at *
  go_enter Tryz.func19, Tryz.ntmps19
  go_upto_region 1 with (fail)
  generalize (((w.alloc (.cells #[.string ⟨p.n.toArray⟩, .string ⟨p.d.toArray⟩] 24)).alloc (.cells #[.string ⟨v.n.toArray⟩, .string ⟨v.d.toArray⟩] 24)).alloc (.cells #[.string ⟨r.n.toArray⟩, .string ⟨r.d.toArray⟩] 24)) = W at *
  rcases HCS.out with ⟨e1, hb⟩ | ⟨e1, e2, hb⟩ | ⟨e1, e2, e3, hb⟩ | ⟨e1, e2, e3, hok⟩
  · rw [e1] at HCP
    have HCK := Lib.hid (HBAD.out hb)
    clear e1 hb HBAD HNEG HOK HCS HCV HCR HMP HMV HMR
    go_wp2_with fail
    refine (HCP.out _).mono ?_
    rintro e w1 ⟨rfl, hb1⟩
    have H4 := Lib.hid (H3.out.here hb1)
    go_wp2_with fail
    first | go_ret | skip
    rw [HPO.out, HCK.out]
    exact ⟨rfl, H4.out.bl⟩
  · rw [e1] at HCP
    rw [e2] at HCV
    have HCK := Lib.hid (HBAD.out hb)
    clear e1 e2 hb HBAD HNEG HOK HCS HCR HMP HMV HMR
    go_wp2_with fail
    refine (HCP.out _).mono ?_
    rintro e w1 ⟨rfl, hb1⟩
    have H4 := Lib.hid (H3.out.here hb1)
    clear x0 x1 y0 y1 z0 z1 hb1
    obtain ⟨y0, y1⟩ := H4.out.b.cells
    go_wp2_with fail
    refine (HCV.out _).mono ?_
    rintro e w2 ⟨rfl, hb2⟩
    have H5 := Lib.hid (H4.out.here hb2)
    go_wp2_with fail
    first | go_ret | skip
    rw [HPO.out, HCK.out]
    exact ⟨rfl, H5.out.bl⟩
  · rw [e1] at HCP
    rw [e2] at HCV
    rw [e3] at HCR
    have HCK := Lib.hid (HBAD.out hb)
    clear e1 e2 e3 hb HBAD HNEG HOK HCS HMP HMV HMR
    go_wp2_with fail
    refine (HCP.out _).mono ?_
    rintro e w1 ⟨rfl, hb1⟩
    have H4 := Lib.hid (H3.out.here hb1)
    clear x0 x1 y0 y1 z0 z1 hb1
    obtain ⟨y0, y1⟩ := H4.out.b.cells
    go_wp2_with fail
    refine (HCV.out _).mono ?_
    rintro e w2 ⟨rfl, hb2⟩
    have H5 := Lib.hid (H4.out.here hb2)
    clear y0 y1 hb2
    obtain ⟨z0, z1⟩ := H5.out.c.cells
    go_wp2_with fail
    refine (HCR.out _).mono ?_
    rintro e w3 ⟨rfl, hb3⟩
    have H6 := Lib.hid (H5.out.here hb3)
    go_wp2_with fail
    first | go_ret | skip
    rw [HPO.out, HCK.out]
    exact ⟨rfl, H6.out.bl⟩
  · rw [e1] at HCP
    rw [e2] at HCV
    rw [e3] at HCR
    have HOKS := Lib.hid hok
    clear e1 e2 e3 hok HBAD HCS
    go_wp2_with fail
    refine (HCP.out _).mono ?_
    rintro e w1 ⟨rfl, hb1⟩
    have H4 := Lib.hid (H3.out.here hb1)
    clear x0 x1 y0 y1 z0 z1 hb1
    obtain ⟨y0, y1⟩ := H4.out.b.cells
    go_wp2_with fail
    refine (HCV.out _).mono ?_
    rintro e w2 ⟨rfl, hb2⟩
    have H5 := Lib.hid (H4.out.here hb2)
    clear y0 y1 hb2
    obtain ⟨z0, z1⟩ := H5.out.c.cells
    go_wp2_with fail
    refine (HCR.out _).mono ?_
    rintro e w3 ⟨rfl, hb3⟩
    have H6 := Lib.hid (H5.out.here hb3)
    clear z0 z1 hb3
    go_upto_region 4 with (fail)
    have hbA := (Below.refl w3.heap.size w3).alloc (Nat.le_refl _) (.cells #[.string ⟨#[]⟩, .string ⟨#[]⟩] 24)
    have H7 := Lib.hid (H6.out.here hbA)
    have HZ7 := Lib.hid (show FrB (w3.alloc (.cells #[.string ⟨#[]⟩, .string ⟨#[]⟩] 24)) w3.heap.size Fr.zero from FrB.new w3 Fr.zero)
    clear hbA
    generalize w3.alloc (.cells #[.string ⟨#[]⟩, .string ⟨#[]⟩] 24) = W7 at *
    obtain ⟨x0, x1⟩ := H7.out.a.cells
    obtain ⟨n0, n1⟩ := HZ7.out.cells
    have HPC := Lib.hid (cmp0_cases p.rat)
    have HVC := Lib.hid (cmp0_cases v.rat)
    have HRC := Lib.hid (cmp0_cases r.rat)
    generalize cmpR p.rat Fr.zero.rat = cp at *
    generalize cmpR v.rat Fr.zero.rat = cv at *
    generalize cmpR r.rat Fr.zero.rat = cr at *
    by_cases hp0 : p.rat < 0
    · obtain rfl : cp = -1 := by
        rcases HPC.out with h | h | h
        · exact h.2
        · exact absurd hp0 h.1
        · exact absurd hp0 h.1
      have HCK := Lib.hid (HNEG.out HOKS.out (.inl hp0))
      clear HPC HVC HRC hp0 HOK HNEG HOKS HMV HMR HCP HCV HCR
      go_wp2_with fail
      refine (HMP.out _).mono ?_
      rintro e w8 ⟨rfl, hb8⟩
      go_wp2_with fail
      first | go_ret | skip
      rw [HPO.out, HCK.out]
      exact ⟨rfl, (H7.out.here hb8).bl⟩
    have hcp : ¬ cp < 0 := by
      rcases HPC.out with h | h | h
      · exact absurd h.1 hp0
      · omega
      · omega
    by_cases hv0 : v.rat < 0
    · obtain rfl : cv = -1 := by
        rcases HVC.out with h | h | h
        · exact h.2
        · exact absurd hv0 h.1
        · exact absurd hv0 h.1
      have HCK := Lib.hid (HNEG.out HOKS.out (.inr (.inl hv0)))
      clear HPC HVC HRC hp0 hv0 HOK HNEG HOKS HMR HCP HCV HCR
      go_wp2_with fail
      refine (HMP.out _).mono ?_
      rintro e w8 ⟨rfl, hb8⟩
      have H8 := Lib.hid (H7.out.here hb8)
      have HZ8 := Lib.hid (HZ7.out.here hb8)
      clear x0 x1 n0 n1 hb8
      obtain ⟨y0, y1⟩ := H8.out.b.cells
      obtain ⟨n0, n1⟩ := HZ8.out.cells
      go_wp2_with fail
      refine (HMV.out _).mono ?_
      rintro e w9 ⟨rfl, hb9⟩
      go_wp2_with fail
      first | go_ret | skip
      rw [HPO.out, HCK.out]
      exact ⟨rfl, (H8.out.here hb9).bl⟩
    have hcv : ¬ cv < 0 := by
      rcases HVC.out with h | h | h
      · exact absurd h.1 hv0
      · omega
      · omega
    obtain ⟨res, hres, hcr⟩ : ∃ res : Int, ck = res ∧ ((cr ≤ 0 ∧ res = 2) ∨ (¬ cr ≤ 0 ∧ res = 0)) := by
      rcases HRC.out with h | h | h
      · exact ⟨2, HNEG.out HOKS.out (.inr (.inr (.inl h.1))), .inl ⟨by omega, rfl⟩⟩
      · exact ⟨2, HNEG.out HOKS.out (.inr (.inr (.inr h.2.1))), .inl ⟨by omega, rfl⟩⟩
      · exact ⟨0, HOK.out HOKS.out ⟨hp0, hv0, h.1, h.2.1⟩, .inr ⟨by omega, rfl⟩⟩
    have HCK := Lib.hid hres
    clear HPC HVC HRC hp0 hv0 HOK HNEG HOKS HCP HCV HCR hres
    go_wp2_with fail
    refine (HMP.out _).mono ?_
    rintro e w8 ⟨rfl, hb8⟩
    have H8 := Lib.hid (H7.out.here hb8)
    have HZ8 := Lib.hid (HZ7.out.here hb8)
    clear x0 x1 n0 n1 hb8 HMP
    obtain ⟨y0, y1⟩ := H8.out.b.cells
    obtain ⟨n0, n1⟩ := HZ8.out.cells
    go_wp2_with fail
    refine (HMV.out _).mono ?_
    rintro e w9 ⟨rfl, hb9⟩
    have H9 := Lib.hid (H8.out.here hb9)
    have HZ9 := Lib.hid (HZ8.out.here hb9)
    clear y0 y1 n0 n1 hb9 HMV
    obtain ⟨z0, z1⟩ := H9.out.c.cells
    obtain ⟨n0, n1⟩ := HZ9.out.cells
    go_wp2_with fail
    refine (HMR.out _).mono ?_
    rintro e w10 ⟨rfl, hb10⟩
    rcases hcr with ⟨hcr, rfl⟩ | ⟨hcr, rfl⟩
    all_goals
      go_wp2_with fail
      first | go_ret | skip
      rw [HPO.out, HCK.out]
      exact ⟨rfl, (H9.out.here hb10).bl⟩
end Go.Proofs.YtaiikjgoofefgaaGreatDoor
