/- The reference's fractions: zero, one, Raw, exact. -/
import Derived.Test.YtaiikjgoofefgaaGreatDoorQG1s11
import Derived.Test.YtaiikjgoofefgaaGreatDoorR13qG1s
import Derived.Test.YtaiikjgoofefgaaGreatDoorQG1s9
import Derived.Test.YtaiikjgoofefgaaGreatDoorFp6qG1s
namespace Go.Proofs.YtaiikjgoofefgaaGreatDoor
open Go.RowKit Go.Shelf

/-- A fraction with a positive denominator. -/
def Fr.raw (f : Fr) : Fr := ⟨if val f.d < 0 then txtL (-val f.n) else f.n, if val f.d = 0 then [49] else if val f.d < 0 then txtL (-val f.d) else f.d⟩
theorem Fr.raw_pos (f : Fr) : 0 < val f.raw.d := by
  unfold Fr.raw
  simp only
  split
  · rw [one_val]; omega
  · split
    · rw [val_txtL]; omega
    · omega
theorem Fr.raw_dv (f : Fr) : f.raw.dv = val f.raw.d := by
  have := f.raw_pos
  unfold Fr.dv
  rw [if_neg (by omega)]
theorem Fr.raw_rat (f : Fr) : Rat.divInt (val f.raw.n) (val f.raw.d) = f.rat := by
  unfold Fr.raw Fr.rat Fr.dv
  simp only
  by_cases h0 : val f.d = 0
  · rw [if_pos h0, if_pos h0, if_neg (by omega), one_val]
  · rw [if_neg h0, if_neg h0]
    by_cases h1 : val f.d < 0
    · rw [if_pos h1, if_pos h1, val_txtL, val_txtL, Rat.neg_divInt_neg]
    · rw [if_neg h1, if_neg h1]
theorem Fr.raw_rat' (f : Fr) : f.raw.rat = f.rat := by
  have := f.raw_rat
  rw [← f.raw_dv] at this
  exact this
theorem Fr.raw_sz {f : Fr} {L : Nat} (h : f.Sz L) (hL : 1 ≤ L) : f.raw.Sz (L + 1) := by
  have h1 := val_lt f.n
  have h2 := val_lt f.d
  have h3 := h.1
  have h4 := h.2
  have e1 := txtL_length (n := -val f.n) (L := f.n.length) (by omega)
  have e2 := txtL_length (n := -val f.d) (L := f.d.length) (by omega)
  unfold Fr.raw
  constructor
  · simp only
    split <;> omega
  · simp only
    split
    · simp
    · split <;> omega
set_option maxRecDepth 20000 in
theorem zZero_any (a : List UInt8) (w : World) (ha : a.length ≤ 100000000) : Calls Tryz.prog 54 #[S a] w fun e w' => e = .returned (.bool (decide (val a = 0))) ∧ w = w' := by
  have HC := Lib.hid (rCompare_any a [] w ha (by simp))
  rw [val_nil, Int.sub_zero] at HC
  have HE := Lib.hid (sgn_zero (val a))
  generalize sgnI (val a) = z at *
  generalize decide (val a = 0) = bb at *
  clear ha
  unfold S at *
  go_enter Tryz.func54, Tryz.ntmps54
  go_wp2_with fail
  refine HC.out.mono ?_
  rintro e w1 ⟨rfl, rfl⟩
  go_wp2_with fail
  go_ret
  exact ⟨ret_bool HE.out, rfl⟩
set_option maxRecDepth 20000 in
theorem zOne_any (w : World) : Calls Tryz.prog 55 #[] w fun e w' => e = .returned (S [49]) ∧ w = w' := by
  have HC := Lib.hid (rOf_any 1 (by omega) (by omega) w)
  rw [one_txt] at HC
  unfold S at *
  go_enter Tryz.func55, Tryz.ntmps55
  go_wp2_with fail
  refine HC.out.mono ?_
  rintro e w1 ⟨rfl, rfl⟩
  go_wp2_with fail
  go_ret
  exact ⟨rfl, rfl⟩
set_option maxRecDepth 20000 in
set_option maxHeartbeats 1000000 in
theorem zRaw_any (f : Fr) (w : World) (hf : f.Sz 100000) : Calls Tryz.prog 36 #[FrV f] w (TwoPost f.raw.n f.raw.d w) := by
  have hbA : Below w.heap.size w (w.alloc (.cells #[.string ⟨f.n.toArray⟩, .string ⟨f.d.toArray⟩] 24)) := (Below.refl _ _).alloc (Nat.le_refl _) _
  have HZ := Lib.hid (fun W => zZero_any f.d W (by have := hf.2; omega))
  have HO := Lib.hid (fun W => zOne_any W)
  have HCM := Lib.hid (fun W => rCompare_any f.d [] W (by have := hf.2; omega) (by simp))
  rw [val_nil, Int.sub_zero] at HCM
  have HN1 := Lib.hid (fun W => rNeg_any f.n W (by have := hf.1; omega))
  have HN2 := Lib.hid (fun W => rNeg_any f.d W (by have := hf.2; omega))
  have HPO := Lib.hid (show TwoPost f.raw.n f.raw.d w = fun e w' => e = .returned (.tuple #[S f.raw.n, S f.raw.d]) ∧ Below w.heap.size w w' from rfl)
  have HB := Lib.hid (FrB.new w f)
  have HBA := Lib.hid hbA
  generalize TwoPost f.raw.n f.raw.d w = post at *
  obtain ⟨c0, c1⟩ := HB.out.cells
  clear hbA hf
  unfold Fr.raw at HPO
  unfold S FrV at *
  unfold S
  go_enter Tryz.func36, Tryz.ntmps36
  go_wp2_with fail
  generalize w.alloc (.cells #[.string ⟨f.n.toArray⟩, .string ⟨f.d.toArray⟩] 24) = W at *
  by_cases h0 : val f.d = 0
  · rw [show decide (val f.d = 0) = true by simp [h0]] at HZ
    rw [if_pos h0, if_neg (by omega)] at HPO
    clear h0 HCM HN1 HN2
    refine (HZ.out _).mono ?_
    rintro e w1 ⟨rfl, rfl⟩
    go_wp2_with fail
    go_quiet ((go_at_call 55; exact Calls.quiet_of_same ((HO.out _).mono (fun e w' h => And.intro h.1 h.2.symm))))
    go_wp2_with fail
    rw [HPO.out]
    exact ⟨rfl, bdN HBA.out _⟩
  · rw [show decide (val f.d = 0) = false by simp [h0]] at HZ
    rw [if_neg h0] at HPO
    refine (HZ.out _).mono ?_
    rintro e w1 ⟨rfl, rfl⟩
    by_cases h1 : val f.d < 0
    · rw [show sgnI (val f.d) = -1 by unfold sgnI; rw [if_pos h1]] at HCM
      rw [if_pos h1, if_pos h1] at HPO
      clear h0 h1
      go_wp2_with fail
      refine (HCM.out _).mono ?_
      rintro e w1 ⟨rfl, rfl⟩
      go_wp2_with fail
      go_quiet (first | (go_at_call_of 56 (Value.string ⟨f.n.toArray⟩); exact Calls.quiet_of_same ((HN1.out _).mono (fun e w' h => And.intro h.1 h.2.symm))) | (go_at_call_of 56 (Value.string ⟨f.d.toArray⟩); exact Calls.quiet_of_same ((HN2.out _).mono (fun e w' h => And.intro h.1 h.2.symm))))
      go_wp2_with fail
      rw [HPO.out]
      exact ⟨rfl, bdN HBA.out _⟩
    · rw [show sgnI (val f.d) = 1 by unfold sgnI; rw [if_neg h1, if_pos (by omega)]] at HCM
      rw [if_neg h1, if_neg h1] at HPO
      clear h0 h1
      go_wp2_with fail
      refine (HCM.out _).mono ?_
      rintro e w1 ⟨rfl, rfl⟩
      go_wp2_with fail
      go_quiet (fail)
      go_wp2_with fail
      rw [HPO.out]
      exact ⟨rfl, bdN HBA.out _⟩
set_option maxRecDepth 20000 in
theorem zExact_any (a b : List UInt8) (w : World) (ha : a.length ≤ 100000) (hb : b.length ≤ 100000) (h0 : val b ≠ 0) : Calls Tryz.prog 58 #[S a, S b] w (StrPost (txtL ((val a).fdiv (val b))) w) := by
  have HD := Lib.hid (rDiv_any a b w ha hb)
  have HPO := Lib.hid (show StrPost (txtL ((val a).fdiv (val b))) w = fun e w' => e = .returned (S (txtL ((val a).fdiv (val b)))) ∧ Below w.heap.size w w' from rfl)
  generalize StrPost (txtL ((val a).fdiv (val b))) w = post at *
  unfold S at *
  go_enter Tryz.func58, Tryz.ntmps58
  go_wp2_with fail
  refine HD.out.mono ?_
  intro e w1 h1
  obtain ⟨rfl, hb1⟩ := Div3_ok h0 h1
  clear h1
  go_wp2_with fail
  first | go_ret | skip
  rw [HPO.out]
  exact ⟨rfl, hb1⟩
end Go.Proofs.YtaiikjgoofefgaaGreatDoor
