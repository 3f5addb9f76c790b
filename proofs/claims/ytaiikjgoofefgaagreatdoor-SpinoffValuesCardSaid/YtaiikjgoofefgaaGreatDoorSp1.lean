/- Contracts of spinoff.check. -/
import Derived.Test.YtaiikjgoofefgaaGreatDoorCf
namespace Go.Proofs.YtaiikjgoofefgaaGreatDoor
open Go.RowKit Go.Shelf

set_option maxRecDepth 20000 in
theorem check1_any (f : Fr) (w : World) (hp : Pow w) (hf : f.Sz 20000) : Calls Tryz.prog 32 #[FrV f] w fun e w' => e = .returned (.bool (!decide f.ok)) ∧ Below w.heap.size w w' := by
  have hbA : Below w.heap.size w (w.alloc (.cells #[.string ⟨f.n.toArray⟩, .string ⟨f.d.toArray⟩] 24)) := (Below.refl _ _).alloc (Nat.le_refl _) _
  have HC := Lib.hid (fCheck_any f (w.alloc (.cells #[.string ⟨f.n.toArray⟩, .string ⟨f.d.toArray⟩] 24)) (hp.here hbA) hf)
  obtain ⟨x0, x1⟩ := (FrB.new w f).cells
  have HE := Lib.hid (show (chkF f != 0) = !decide f.ok by unfold chkF; by_cases h : f.ok <;> simp [h])
  have HBA := Lib.hid hbA
  clear hp hf hbA
  generalize chkF f = z at *
  generalize decide f.ok = bb at *
  unfold FrV at *
  unfold S at *
  go_enter Tryz.func32, Tryz.ntmps32
  go_wp2_with fail
  refine HC.out.mono ?_
  rintro e w1 ⟨rfl, hb1⟩
  go_wp2_with fail
  go_ret
  exact ⟨ret_bool HE.out, HBA.out.trans (hb1.mono HBA.out.size)⟩
theorem cmp_zero (x : Rat) : decide (cmpR x Fr.zero.rat < 0) = decide (x < 0) := by
  rw [rat_zero]
  unfold cmpR
  by_cases h : x < 0
  · simp [h]
  · rw [if_neg h]
    simp only [h, decide_false, decide_eq_false_iff_not]
    split <;> omega
set_option maxRecDepth 20000 in
theorem check2_any (f : Fr) (w : World) (hp : Pow w) (hf : f.Sz 20000) : Calls Tryz.prog 34 #[FrV f] w fun e w' => e = .returned (.bool (decide (f.rat < 0))) ∧ Below w.heap.size w w' := by
  have hbA : Below w.heap.size w (w.alloc (.cells #[.string ⟨f.n.toArray⟩, .string ⟨f.d.toArray⟩] 24)) := (Below.refl _ _).alloc (Nat.le_refl _) _
  have HC := Lib.hid (fCompare_any f Fr.zero (w.alloc (.cells #[.string ⟨f.n.toArray⟩, .string ⟨f.d.toArray⟩] 24)) (hp.here hbA) hf ⟨by simp [Fr.zero], by simp [Fr.zero]⟩)
  obtain ⟨x0, x1⟩ := (FrB.new w f).cells
  have HE := Lib.hid (cmp_zero f.rat)
  have HBA := Lib.hid hbA
  clear hp hf hbA
  generalize cmpR f.rat Fr.zero.rat = z at *
  generalize decide (f.rat < 0) = bb at *
  unfold FrV at *
  unfold S at *
  go_enter Tryz.func34, Tryz.ntmps34
  go_wp2_with fail
  refine HC.out.mono ?_
  rintro e w1 ⟨rfl, hb1⟩
  go_wp2_with fail
  go_ret
  exact ⟨ret_bool HE.out, HBA.out.trans (hb1.mono HBA.out.size)⟩
/-- What check gives for three fractions. -/
def chkS (p v r : Fr) : Int := if p.ok ∧ v.ok ∧ r.ok then (if p.rat < 0 ∨ v.rat < 0 ∨ r.rat < 0 ∨ r = Fr.zero then 2 else 0) else 1
theorem frz (r : Fr) : (r = Fr.zero) ↔ (r.n = [] ∧ r.d = []) := by
  constructor
  · rintro rfl; exact ⟨rfl, rfl⟩
  · rintro ⟨h1, h2⟩; exact Fr.ext_ h1 h2
set_option maxRecDepth 20000 in
set_option maxHeartbeats 1000000 in
theorem check_any (A : Option Addr) (c : Nat) (p v r : Fr) (w : World) (hp : Pow w) (hp2 : p.Sz 20000) (hv : v.Sz 20000) (hr : r.Sz 20000) (hs : Frs w w.heap.size A 3 [p, v, r]) :
    Calls Tryz.prog 18 #[.slice A 3 c] w (CmpIPost (chkS p v r) w) := by
  have hsz : ∀ x ∈ [p, v, r], x.Sz 20000 := by
    intro x hx
    simp at hx
    rcases hx with rfl | rfl | rfl <;> assumption
  have HC1 := Lib.hid (containsF_any 32 (fun f => !decide f.ok) A 3 c [p, v, r] w (enters_of Tryz.func32 (by kernel_rfl) rfl) (fun W x hx hb => check1_any x W (hp.here hb) (hsz x hx)) hs (by omega))
  have HC2 := Lib.hid (fun W (hbW : Below w.heap.size w W) => containsF_any 34 (fun f => decide (f.rat < 0)) A 3 c [p, v, r] W (enters_of Tryz.func34 (by kernel_rfl) rfl) (fun W' x hx hb => check2_any x W' ((hp.here hbW).here hb) (hsz x hx)) (hs.here hbW) (by omega))
  have HPO := Lib.hid (show CmpIPost (chkS p v r) w = fun e w' => e = .returned (.int .i64 (chkS p v r)) ∧ Below w.heap.size w w' from rfl)
  generalize CmpIPost (chkS p v r) w = post at *
  obtain ⟨b, off, x, hA, hb, hx, d0, d1⟩ := hs.fr (i := 2) (by omega)
  simp at hx
  subst hx; subst hA
  have HR := Lib.hid (frz r)
  have HD0 := Lib.hid d0; have HD1 := Lib.hid d1
  have HK := Lib.hid (show chkS p v r = if p.ok ∧ v.ok ∧ r.ok then (if p.rat < 0 ∨ v.rat < 0 ∨ r.rat < 0 ∨ r = Fr.zero then 2 else 0) else 1 from rfl)
  clear hs d0 d1 hp hp2 hv hr hsz
  by_cases h1 : p.ok ∧ v.ok ∧ r.ok
  · rw [show [p, v, r].any (fun f => !decide f.ok) = false by simp [h1]] at HC1
    rw [if_pos h1] at HK
    by_cases h2 : p.rat < 0 ∨ v.rat < 0 ∨ r.rat < 0
    · rw [show [p, v, r].any (fun f => decide (f.rat < 0)) = true by simp; exact h2] at HC2
      rw [if_pos (by rcases h2 with h | h | h <;> simp [h])] at HK
      clear h1 h2
      go_enter Tryz.func18, Tryz.ntmps18
      go_wp2_with fail
      refine HC1.out.mono ?_
      rintro e w1 ⟨rfl, hb1⟩
      go_wp2_with fail
      refine (HC2.out _ hb1).mono ?_
      rintro e w2 ⟨rfl, hb2⟩
      go_wp2_with fail
      rw [HPO.out, HK.out]
      exact ⟨rfl, hb1.trans (hb2.mono hb1.size)⟩
    · rw [show [p, v, r].any (fun f => decide (f.rat < 0)) = false by simp only [List.any_cons, List.any_nil, Bool.or_false, Bool.or_eq_false_iff, decide_eq_false_iff_not]; simp only [not_or] at h2; exact ⟨h2.1, h2.2.1, h2.2.2⟩] at HC2
      have HK2 := Lib.hid (show chkS p v r = if (r.n == []) && (r.d == []) then 2 else 0 by
        rw [HK.out]
        simp only [not_or] at h2
        simp only [h2.1, h2.2.1, h2.2.2, false_or, HR.out]
        by_cases ha : r.n = [] <;> by_cases hb : r.d = [] <;> simp [ha, hb])
      clear h1 h2 HK HR
      cases hn : (r.n == []) <;> cases hd : (r.d == [])
      all_goals
        rw [hn, hd] at HK2
        simp only [Bool.and_true, Bool.and_false, Bool.true_and, Bool.false_and, Bool.false_eq_true, if_true, if_false] at HK2
        go_enter Tryz.func18, Tryz.ntmps18
        go_wp2_with fail
        refine HC1.out.mono ?_
        rintro e w1 ⟨rfl, hb1⟩
        go_wp2_with fail
        refine (HC2.out _ hb1).mono ?_
        rintro e w2 ⟨rfl, hb2⟩
        have hb12 := hb1.trans (hb2.mono hb1.size)
        have e0 := (hb12.cell (p := ⟨b, off + 2 * 2, none⟩) hb).trans HD0.out
        have e1 := (hb12.cell (p := ⟨b, off + 2 * 2 + 1, none⟩) hb).trans HD1.out
        simp only [Nat.reduceMul] at e0 e1
        go_wp2_with fail
        rw [HPO.out, HK2.out]
        exact ⟨rfl, hb12⟩
  · rw [show [p, v, r].any (fun f => !decide f.ok) = true by
      simp only [List.any_cons, List.any_nil, Bool.or_false, Bool.or_eq_true, Bool.not_eq_true', decide_eq_false_iff_not]
      by_cases a1 : p.ok
      · by_cases a2 : v.ok
        · exact .inr (.inr (fun a3 => h1 ⟨a1, a2, a3⟩))
        · exact .inr (.inl a2)
      · exact .inl a1] at HC1
    rw [if_neg h1] at HK
    clear h1
    go_enter Tryz.func18, Tryz.ntmps18
    go_wp2_with fail
    refine HC1.out.mono ?_
    rintro e w1 ⟨rfl, hb1⟩
    go_wp2_with fail
    rw [HPO.out, HK.out]
    exact ⟨rfl, hb1⟩
end Go.Proofs.YtaiikjgoofefgaaGreatDoor
