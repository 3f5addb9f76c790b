/- Contracts of fraction's made and parts. -/
import Derived.Test.YtaiikjgoofefgaaGreatDoorFp1
namespace Go.Proofs.YtaiikjgoofefgaaGreatDoor
open Go.RowKit Go.Shelf

theorem one_txt : txtL 1 = [49] := by
  rw [show (1 : Int) = ((1 : Nat) : Int) from rfl, txtL_nat]
  unfold digs
  rw [if_neg (by omega), Lib.decDigits, dif_pos (by omega)]
  decide
theorem one_val : val [49] = 1 := by rw [← one_txt, val_txtL]
set_option maxRecDepth 20000 in
set_option maxHeartbeats 1000000 in
theorem made_any (n d : List UInt8) (w : World) (hp : Pow w) (hn : n.length ≤ 50000) (hd : d.length ≤ 50000) (hd0 : val d ≠ 0) :
    Calls Tryz.prog 30 #[S n, S d] w (FracPost (frOf (Rat.divInt (val n) (val d))) w) := by
  have hbA : Below w.heap.size w (w.alloc (.cells #[.string ⟨#[]⟩, .string ⟨#[]⟩] 24)) := (Below.refl _ _).alloc (Nat.le_refl _) _
  have HRD := Lib.hid (reduced_any n d (w.alloc (.cells #[.string ⟨#[]⟩, .string ⟨#[]⟩] 24)) (hp.here hbA) hn hd hd0)
  have HPO := Lib.hid (show FracPost (frOf (Rat.divInt (val n) (val d))) w = fun e w' => e = .returned (FrV (frOf (Rat.divInt (val n) (val d)))) ∧ Below w.heap.size w w' from rfl)
  have HB := Lib.hid (show FrB (w.alloc (.cells #[.string ⟨#[]⟩, .string ⟨#[]⟩] 24)) w.heap.size Fr.zero from FrB.new w Fr.zero)
  have HBA := Lib.hid hbA
  generalize FracPost (frOf (Rat.divInt (val n) (val d))) w = post at *
  generalize Rat.divInt (val n) (val d) = q at *
  clear hn hd hp hd0 hbA
  unfold S at *
  go_enter Tryz.func30, Tryz.ntmps30
  go_wp2_with fail
  generalize w.alloc (.cells #[.string ⟨#[]⟩, .string ⟨#[]⟩] 24) = W at *
  refine HRD.out.mono ?_
  rintro e w1 ⟨rfl, hb1⟩
  unfold S
  have HB1 := Lib.hid (HB.out.here hb1)
  obtain ⟨c0, c1⟩ := HB1.out.cells
  have f0 := HB1.out.frozen 0; have f1 := HB1.out.frozen 1
  have hb01 := HBA.out.trans (hb1.mono HBA.out.size)
  by_cases h1 : q.den = 1
  · have HF := Lib.hid (show FrV (frOf q) = .agg #[.string ⟨(txtL q.num).toArray⟩, .string ⟨#[]⟩] by unfold FrV frOf; simp only [if_pos h1]; rfl)
    rw [show txtL (q.den : Int) = [49] by rw [h1]; exact one_txt]
    clear h1
    go_wp2_with fail
    refine bodyPost_ret (v := .agg #[.string ⟨(txtL q.num).toArray⟩, .string ⟨#[]⟩]) (by simp [results, Tryz.results30, go_sem, c0, c1]) rfl ?_
    rw [HPO.out, HF.out]
    exact ⟨rfl, (hb01.setCell (p := ⟨w.heap.size, 0, none⟩) (Nat.le_refl _) _).setCell (p := ⟨w.heap.size, 1, none⟩) (Nat.le_refl _) _⟩
  · have HF := Lib.hid (show FrV (frOf q) = .agg #[.string ⟨(txtL q.num).toArray⟩, .string ⟨(txtL q.den).toArray⟩] by unfold FrV frOf; simp only [if_neg h1]; rfl)
    have hne : (txtL (q.den : Int) == [49]) = false := by
      rw [Bool.eq_false_iff]
      intro h
      have h := eq_of_beq h
      exact h1 (by rw [← one_txt] at h; have := txtL_inj h; omega)
    clear h1
    generalize txtL (q.den : Int) = t at *
    go_wp2_with fail
    refine bodyPost_ret (v := .agg #[.string ⟨(txtL q.num).toArray⟩, .string ⟨t.toArray⟩]) (by simp [results, Tryz.results30, go_sem, c0, c1]) rfl ?_
    rw [HPO.out, HF.out]
    exact ⟨rfl, (hb01.setCell (p := ⟨w.heap.size, 0, none⟩) (Nat.le_refl _) _).setCell (p := ⟨w.heap.size, 1, none⟩) (Nat.le_refl _) _⟩
/-- The denominator as it is, 1 for 0. -/
def Fr.dt (f : Fr) : List UInt8 := if val f.d = 0 then [49] else f.d
theorem Fr.val_dt (f : Fr) : val f.dt = f.dv := by
  unfold Fr.dt Fr.dv
  split
  · exact one_val
  · rfl
theorem Fr.dt_len {f : Fr} {L : Nat} (h : f.d.length ≤ L) (hL : 1 ≤ L) : f.dt.length ≤ L := by
  unfold Fr.dt
  split
  · exact hL
  · exact h
set_option maxRecDepth 20000 in
set_option maxHeartbeats 1000000 in
theorem parts_any (f : Fr) (w : World) (hd : f.d.length ≤ 100000) : Calls Tryz.prog 29 #[FrV f] w (TwoPost f.n f.dt w) := by
  have hbA : Below w.heap.size w (w.alloc (.cells #[.string ⟨f.n.toArray⟩, .string ⟨f.d.toArray⟩] 24)) := (Below.refl _ _).alloc (Nat.le_refl _) _
  have HCM := Lib.hid (Compare_any f.d [] (w.alloc (.cells #[.string ⟨f.n.toArray⟩, .string ⟨f.d.toArray⟩] 24)) hd (by simp))
  rw [show val ([] : List UInt8) = 0 from val_nil, Int.sub_zero] at HCM
  have HPO := Lib.hid (show TwoPost f.n f.dt w = fun e w' => e = .returned (.tuple #[S f.n, S f.dt]) ∧ Below w.heap.size w w' from rfl)
  have HB := Lib.hid (FrB.new w f)
  have HBA := Lib.hid hbA
  generalize TwoPost f.n f.dt w = post at *
  obtain ⟨c0, c1⟩ := HB.out.cells
  clear hbA hd
  unfold S FrV at *
  unfold S
  go_enter Tryz.func29, Tryz.ntmps29
  go_wp2_with fail
  generalize w.alloc (.cells #[.string ⟨f.n.toArray⟩, .string ⟨f.d.toArray⟩] 24) = W at *
  refine HCM.out.mono ?_
  rintro e w1 ⟨rfl, hb1⟩
  have HB1 := Lib.hid (HB.out.here hb1)
  clear c0 c1
  obtain ⟨c0, c1⟩ := HB1.out.cells
  have hb01 := HBA.out.trans (hb1.mono HBA.out.size)
  by_cases h0 : val f.d = 0
  · have hs : (sgnI (val f.d) == 0) = true := by rw [h0]; rfl
    rw [show f.dt = [49] by unfold Fr.dt; rw [if_pos h0]] at HPO
    clear h0
    go_wp2_with fail
    rw [HPO.out]
    exact ⟨rfl, hb01⟩
  · have hs : (sgnI (val f.d) == 0) = false := by unfold sgnI; (repeat' split) <;> simp <;> omega
    rw [show f.dt = f.d by unfold Fr.dt; rw [if_neg h0]] at HPO
    clear h0
    go_wp2_with fail
    go_quiet (fail)
    go_wp2_with fail
    rw [HPO.out]
    exact ⟨rfl, bdN hb01 _⟩
end Go.Proofs.YtaiikjgoofefgaaGreatDoor
