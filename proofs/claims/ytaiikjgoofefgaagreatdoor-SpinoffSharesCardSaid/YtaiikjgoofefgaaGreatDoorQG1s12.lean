/- Merged texts: Cf, Sp1. -/
import Derived.Test.YtaiikjgoofefgaaGreatDoorFp6qG1s
import Derived.Shelf.Abstract
/- Contracts of slices.ContainsFunc and slices.IndexFunc over fractions. -/
namespace Go.Proofs.YtaiikjgoofefgaaGreatDoor
open Go.RowKit Go.Shelf

def F2 (f : Fr) : List Value := [S f.n, S f.d]
theorem F2_len (f : Fr) : (F2 f).length = 2 := rfl
abbrev Frs (w : World) (B : Nat) (A : Option Addr) (n : Nat) (xs : List Fr) : Prop := Sl F2 2 w B A n xs
theorem Sl.fr {w : World} {B : Nat} {A : Option Addr} {n : Nat} {xs : List Fr} {i : Nat} (h : Frs w B A n xs) (hi : i < n) :
    ∃ b off x, A = some ⟨b, off, none⟩ ∧ b < B ∧ xs[i]? = some x ∧ w.cell? ⟨b, off + i * 2, none⟩ = some (.string ⟨x.n.toArray⟩) ∧ w.cell? ⟨b, off + i * 2 + 1, none⟩ = some (.string ⟨x.d.toArray⟩) := by
  obtain ⟨b, off, x, hA, hb, hx, hc⟩ := h.at_ hi
  exact ⟨b, off, x, hA, hb, hx, hc 0 _ rfl, hc 1 _ rfl⟩
/-- The first place at which p holds, or -1. -/
def idxF (p : Fr → Bool) (xs : List Fr) : Int := match xs.findIdx? p with | some i => (i : Int) | none => -1
theorem idxF_hit {p : Fr → Bool} {xs : List Fr} {j : Nat} {r : Fr} (h : xs[j]? = some r) (hr : p r = true) (hn : (xs.take j).any p = false) : idxF p xs = j := by
  unfold idxF
  have : xs.findIdx? p = some j := by
    rw [List.findIdx?_eq_some_iff_getElem]
    obtain ⟨hj, rfl⟩ := List.getElem?_eq_some_iff.1 h
    refine ⟨hj, hr, fun i hi => ?_⟩
    rw [List.any_eq_false] at hn
    have := hn xs[i] (by rw [List.mem_take_iff_getElem]; exact ⟨i, by omega, rfl⟩)
    simpa using this
  rw [this]
theorem idxF_miss {p : Fr → Bool} {xs : List Fr} (hn : xs.any p = false) : idxF p xs = -1 := by
  unfold idxF
  have : xs.findIdx? p = none := by
    rw [List.findIdx?_eq_none_iff]; intro x hx; rw [List.any_eq_false] at hn; simpa using hn x hx
  rw [this]
theorem idxF_nonneg (p : Fr → Bool) (xs : List Fr) : decide (0 ≤ idxF p xs) = xs.any p := by
  cases h : xs.any p with
  | false => rw [idxF_miss h]; rfl
  | true =>
    rw [List.any_eq_true] at h
    obtain ⟨x, hx, hp⟩ := h
    unfold idxF
    cases hf : xs.findIdx? p with
    | none => rw [List.findIdx?_eq_none_iff] at hf; rw [hf x hx] at hp; cases hp
    | some i => simp
theorem anyF_step {p : Fr → Bool} {xs : List Fr} {j : Nat} {r : Fr} (h : xs[j]? = some r) (hn : (xs.take j).any p = false) (hr : p r = false) : (xs.take (j + 1)).any p = false := by
  obtain ⟨hj, rfl⟩ := List.getElem?_eq_some_iff.1 h
  rw [List.take_succ_eq_append_getElem hj, List.any_append, hn]; simp [hr]
set_option maxHeartbeats 400000 in
theorem indexF_any (g : Nat) (p : Fr → Bool) (A : Option Addr) (n c : Nat) (xs : List Fr) (w : World) (eg : ∀ args w, (callFunc g args).run Tryz.prog w = .ok (.enter g args) w)
    (hp : ∀ (W : World) (x : Fr), x ∈ xs → Below w.heap.size w W → Calls Tryz.prog g #[FrV x] W fun e w' => e = .returned (.bool (p x)) ∧ Below W.heap.size W w') (hr : Frs w w.heap.size A n xs) (hn : n ≤ 1000000000) :
    Calls Tryz.prog 31 #[.slice A n c, .func (.func g) #[] #[]] w fun e w' => e = .returned (.int .i64 (idxF p xs)) ∧ Below w.heap.size w w' := by
  have HPR := Lib.hid hp; have HR := Lib.hid hr
  clear hp hr
  go_enter Tryz.func31, Tryz.ntmps31
  go_wp2
  go_loopw [5, 8] (fun _ i wr => ∃ j : Nat, j ≤ n ∧ i = .int .i64 j ∧ Hid ((xs.take j).any p = false) ∧ Below w.heap.size w wr) (fun _ i _ => n - (intOf i).toNat)
  case atStart => exact ⟨0, Nat.zero_le _, rfl, by show _ = _; simp, Below.refl _ _⟩
  case round =>
    obtain ⟨j, hj, rfl, HN, hb⟩ := hrel
    by_cases hlt : j < n
    · obtain ⟨b, off, r, rfl, hbl, hxj, d0, d1⟩ := (HR.out.below hb).fr hlt
      have HX := Lib.hid hxj
      have hcall := HPR.out wr r (List.mem_of_getElem? hxj) hb
      unfold FrV S at hcall
      clear hxj
      have HC := Lib.hid hcall; clear hcall
      cases hq : p r with
      | true =>
        rw [hq] at HC
        have HQ := Lib.hid hq; clear hq
        go_wp2_with (go_at_fn g; refine (HC.out).mono ?_; rintro e w' ⟨rfl, hb'⟩)
        go_ret
        exact ⟨ret_int (idxF_hit HX.out HQ.out HN.out).symm, hb.trans (hb'.mono hb.size)⟩
      | false =>
        rw [hq] at HC
        have HQ := Lib.hid hq; clear hq
        go_wp2_with (go_at_fn g; refine (HC.out).mono ?_; rintro e w' ⟨rfl, hb'⟩)
        go_roundw
        case rel => exact ⟨j + 1, by omega, by go_num, anyF_step HX.out HN.out HQ.out, hb.trans (hb'.mono hb.size)⟩
        case measure => simp [intOf]; omega
    · go_wp2
      go_ret
      exact ⟨ret_int (idxF_miss (by have := HN.out; rwa [List.take_of_length_le (by have := HR.out.1; omega)] at this)).symm, hb⟩
theorem containsF_any (g : Nat) (p : Fr → Bool) (A : Option Addr) (n c : Nat) (xs : List Fr) (w : World) (eg : ∀ args w, (callFunc g args).run Tryz.prog w = .ok (.enter g args) w)
    (hp : ∀ (W : World) (x : Fr), x ∈ xs → Below w.heap.size w W → Calls Tryz.prog g #[FrV x] W fun e w' => e = .returned (.bool (p x)) ∧ Below W.heap.size W w') (hr : Frs w w.heap.size A n xs) (hn : n ≤ 1000000000) :
    Calls Tryz.prog 16 #[.slice A n c, .func (.func g) #[] #[]] w fun e w' => e = .returned (.bool (xs.any p)) ∧ Below w.heap.size w w' := by
  have H := Lib.hid (indexF_any g p A n c xs w eg hp hr hn); clear hp eg hr
  have e := idxF_nonneg p xs
  generalize idxF p xs = z at *
  have E := Lib.hid e; clear e
  go_enter Tryz.func16, Tryz.ntmps16
  go_wp2_with (go_at_call 31; refine (H.out).mono ?_; rintro e w' ⟨rfl, hb'⟩)
  go_ret
  exact ⟨ret_bool E.out, hb'⟩
end Go.Proofs.YtaiikjgoofefgaaGreatDoor
/- Contracts of spinoff.check. -/
namespace Go.Proofs.YtaiikjgoofefgaaGreatDoor
open Go.RowKit Go.Shelf

set_option maxRecDepth 20000 in
theorem check1_any (f : Fr) (w : World) (hp : Pow w) (hf : f.Sz 20000) : Calls Tryz.prog 32 #[FrV f] w fun e w' => e = .returned (.bool (!decide f.ok)) ∧ Below w.heap.size w w' := by
  have hbA : Below w.heap.size w (w.alloc (.cells #[.string ⟨f.n.toArray⟩, .string ⟨f.d.toArray⟩] 24)) := (Below.refl _ _).alloc (Nat.le_refl _) _
  have HC := Lib.hid (fCheck_any f (w.alloc (.cells #[.string ⟨f.n.toArray⟩, .string ⟨f.d.toArray⟩] 24)) (hp.here hbA) hf)
  obtain ⟨x0, x1⟩ := (FrB.new w f).cells
  have HE := Lib.hid (show (chkF f != 0) = !decide f.ok by unfold chkF; by_cases h : f.ok <;> simp [h])
  have HBA := Lib.hid hbA
  clear hp hf hbA
  generalize chkF f = z at *
  generalize decide f.ok = bb at *
  unfold FrV at *
  unfold S at *
  go_enter Tryz.func32, Tryz.ntmps32
  go_wp2_with fail
  refine HC.out.mono ?_
  rintro e w1 ⟨rfl, hb1⟩
  go_wp2_with fail
  go_ret
  exact ⟨ret_bool HE.out, HBA.out.trans (hb1.mono HBA.out.size)⟩
theorem cmp_zero (x : Rat) : decide (cmpR x Fr.zero.rat < 0) = decide (x < 0) := by
  rw [rat_zero]
  unfold cmpR
  by_cases h : x < 0
  · simp [h]
  · rw [if_neg h]
    simp only [h, decide_false, decide_eq_false_iff_not]
    split <;> omega
set_option maxRecDepth 20000 in
theorem check2_any (f : Fr) (w : World) (hp : Pow w) (hf : f.Sz 20000) : Calls Tryz.prog 34 #[FrV f] w fun e w' => e = .returned (.bool (decide (f.rat < 0))) ∧ Below w.heap.size w w' := by
  have hbA : Below w.heap.size w (w.alloc (.cells #[.string ⟨f.n.toArray⟩, .string ⟨f.d.toArray⟩] 24)) := (Below.refl _ _).alloc (Nat.le_refl _) _
  have HC := Lib.hid (fCompare_any f Fr.zero (w.alloc (.cells #[.string ⟨f.n.toArray⟩, .string ⟨f.d.toArray⟩] 24)) (hp.here hbA) hf ⟨by simp [Fr.zero], by simp [Fr.zero]⟩)
  obtain ⟨x0, x1⟩ := (FrB.new w f).cells
  have HE := Lib.hid (cmp_zero f.rat)
  have HBA := Lib.hid hbA
  clear hp hf hbA
  generalize cmpR f.rat Fr.zero.rat = z at *
  generalize decide (f.rat < 0) = bb at *
  unfold FrV at *
  unfold S at *
  go_enter Tryz.func34, Tryz.ntmps34
  go_wp2_with fail
  refine HC.out.mono ?_
  rintro e w1 ⟨rfl, hb1⟩
  go_wp2_with fail
  go_ret
  exact ⟨ret_bool HE.out, HBA.out.trans (hb1.mono HBA.out.size)⟩
/-- What check gives for three fractions. -/
def chkS (p v r : Fr) : Int := if p.ok ∧ v.ok ∧ r.ok then (if p.rat < 0 ∨ v.rat < 0 ∨ r.rat < 0 ∨ r = Fr.zero then 2 else 0) else 1
theorem frz (r : Fr) : (r = Fr.zero) ↔ (r.n = [] ∧ r.d = []) := by
  constructor
  · rintro rfl; exact ⟨rfl, rfl⟩
  · rintro ⟨h1, h2⟩; exact Fr.ext_ h1 h2
set_option maxRecDepth 20000 in
set_option maxHeartbeats 1000000 in
theorem check_any (A : Option Addr) (c : Nat) (p v r : Fr) (w : World) (hp : Pow w) (hp2 : p.Sz 20000) (hv : v.Sz 20000) (hr : r.Sz 20000) (hs : Frs w w.heap.size A 3 [p, v, r]) :
    Calls Tryz.prog 18 #[.slice A 3 c] w (CmpIPost (chkS p v r) w) := by
  have hsz : ∀ x ∈ [p, v, r], x.Sz 20000 := by
    intro x hx
    simp at hx
    rcases hx with rfl | rfl | rfl <;> assumption
  have HC1 := Lib.hid (containsF_any 32 (fun f => !decide f.ok) A 3 c [p, v, r] w (enters_of Tryz.func32 (by kernel_rfl) rfl) (fun W x hx hb => check1_any x W (hp.here hb) (hsz x hx)) hs (by omega))
  have HC2 := Lib.hid (fun W (hbW : Below w.heap.size w W) => containsF_any 34 (fun f => decide (f.rat < 0)) A 3 c [p, v, r] W (enters_of Tryz.func34 (by kernel_rfl) rfl) (fun W' x hx hb => check2_any x W' ((hp.here hbW).here hb) (hsz x hx)) (hs.here hbW) (by omega))
  have HPO := Lib.hid (show CmpIPost (chkS p v r) w = fun e w' => e = .returned (.int .i64 (chkS p v r)) ∧ Below w.heap.size w w' from rfl)
  generalize CmpIPost (chkS p v r) w = post at *
  obtain ⟨b, off, x, hA, hb, hx, d0, d1⟩ := hs.fr (i := 2) (by omega)
  simp at hx
  subst hx; subst hA
  have HR := Lib.hid (frz r)
  have HD0 := Lib.hid d0; have HD1 := Lib.hid d1
  have HK := Lib.hid (show chkS p v r = if p.ok ∧ v.ok ∧ r.ok then (if p.rat < 0 ∨ v.rat < 0 ∨ r.rat < 0 ∨ r = Fr.zero then 2 else 0) else 1 from rfl)
  clear hs d0 d1 hp hp2 hv hr hsz
  by_cases h1 : p.ok ∧ v.ok ∧ r.ok
  · rw [show [p, v, r].any (fun f => !decide f.ok) = false by simp [h1]] at HC1
    rw [if_pos h1] at HK
    by_cases h2 : p.rat < 0 ∨ v.rat < 0 ∨ r.rat < 0
    · rw [show [p, v, r].any (fun f => decide (f.rat < 0)) = true by simp; exact h2] at HC2
      rw [if_pos (by rcases h2 with h | h | h <;> simp [h])] at HK
      clear h1 h2
      go_enter Tryz.func18, Tryz.ntmps18
      go_wp2_with fail
      refine HC1.out.mono ?_
      rintro e w1 ⟨rfl, hb1⟩
      go_wp2_with fail
      refine (HC2.out _ hb1).mono ?_
      rintro e w2 ⟨rfl, hb2⟩
      go_wp2_with fail
      rw [HPO.out, HK.out]
      exact ⟨rfl, hb1.trans (hb2.mono hb1.size)⟩
    · rw [show [p, v, r].any (fun f => decide (f.rat < 0)) = false by simp only [List.any_cons, List.any_nil, Bool.or_false, Bool.or_eq_false_iff, decide_eq_false_iff_not]; simp only [not_or] at h2; exact ⟨h2.1, h2.2.1, h2.2.2⟩] at HC2
      have HK2 := Lib.hid (show chkS p v r = if (r.n == []) && (r.d == []) then 2 else 0 by
        rw [HK.out]
        simp only [not_or] at h2
        simp only [h2.1, h2.2.1, h2.2.2, false_or, HR.out]
        by_cases ha : r.n = [] <;> by_cases hb : r.d = [] <;> simp [ha, hb])
      clear h1 h2 HK HR
      cases hn : (r.n == []) <;> cases hd : (r.d == [])
      all_goals
        rw [hn, hd] at HK2
        simp only [Bool.and_true, Bool.and_false, Bool.true_and, Bool.false_and, Bool.false_eq_true, if_true, if_false] at HK2
        go_enter Tryz.func18, Tryz.ntmps18
        go_wp2_with fail
        refine HC1.out.mono ?_
        rintro e w1 ⟨rfl, hb1⟩
        go_wp2_with fail
        refine (HC2.out _ hb1).mono ?_
        rintro e w2 ⟨rfl, hb2⟩
        have hb12 := hb1.trans (hb2.mono hb1.size)
        have e0 := (hb12.cell (p := ⟨b, off + 2 * 2, none⟩) hb).trans HD0.out
        have e1 := (hb12.cell (p := ⟨b, off + 2 * 2 + 1, none⟩) hb).trans HD1.out
        simp only [Nat.reduceMul] at e0 e1
        go_wp2_with fail
        rw [HPO.out, HK2.out]
        exact ⟨rfl, hb12⟩
  · rw [show [p, v, r].any (fun f => !decide f.ok) = true by
      simp only [List.any_cons, List.any_nil, Bool.or_false, Bool.or_eq_true, Bool.not_eq_true', decide_eq_false_iff_not]
      by_cases a1 : p.ok
      · by_cases a2 : v.ok
        · exact .inr (.inr (fun a3 => h1 ⟨a1, a2, a3⟩))
        · exact .inr (.inl a2)
      · exact .inl a1] at HC1
    rw [if_neg h1] at HK
    clear h1
    go_enter Tryz.func18, Tryz.ntmps18
    go_wp2_with fail
    refine HC1.out.mono ?_
    rintro e w1 ⟨rfl, hb1⟩
    go_wp2_with fail
    rw [HPO.out, HK.out]
    exact ⟨rfl, hb1⟩
end Go.Proofs.YtaiikjgoofefgaaGreatDoor
