/- Merged texts: R18, R19, Fp2. -/
import Derived.Test.YtaiikjgoofefgaaGreatDoorR17qG1s
import Derived.Test.YtaiikjgoofefgaaGreatDoorFRqG1s
import Derived.Test.YtaiikjgoofefgaaGreatDoorQG1s5
/- The reference's Div. -/
namespace Go.Proofs.YtaiikjgoofefgaaGreatDoor
open Go.RowKit Go.Shelf

theorem rDiv_any (a b : List UInt8) (w : World) (ha : a.length ≤ 100000) (hb : b.length ≤ 100000) : Calls Tryz.prog 74 #[S a, S b] w (Div3Post (val a) (val b) w) := by
  by_cases h0 : val b = 0
  · exact rDiv_zero a b w ha hb h0
  · by_cases hk : (shortL a).2 = true ∧ (shortL b).2 = true
    · exact rDiv_short a b w ha hb h0 hk.1 hk.2
    · exact rDiv_long a b w ha hb h0 hk
end Go.Proofs.YtaiikjgoofefgaaGreatDoor
/- The reference's Gcd. -/
namespace Go.Proofs.YtaiikjgoofefgaaGreatDoor
open Go.RowKit Go.Shelf

def strM (v : Value) : Nat := match v with | .string b => (val b.data.toList).natAbs | _ => 0
theorem strM_eq (l : List UInt8) : strM (.string ⟨l.toArray⟩) = (val l).natAbs := by simp [strM]
theorem txt_dig (a : List UInt8) : txtL ((valD (digL a).1 : Nat) : Int) = (digL a).1 := by
  rw [txtL_nat, digs_valD (digL_ok a).1 (digL_ok a).2.1]
theorem mod_len {m n L : Nat} (hn : n ≠ 0) (h : (txtL (n : Int)).length ≤ L) : (txtL ((m % n : Nat) : Int)).length ≤ L := by
  rw [txtL_nat] at h ⊢
  refine Nat.le_trans (digs_length (L := (digs n).length) ?_) h
  have h1 := valD_lt (digs_dig n)
  rw [valD_digs] at h1
  have := Nat.mod_lt m (Nat.pos_of_ne_zero hn)
  omega
theorem fmod_nat (m n : Nat) : Int.fmod (m : Int) (n : Int) = ((m % n : Nat) : Int) := by
  rw [Int.fmod_eq_emod_of_nonneg _ (by omega)]
  simp
set_option maxRecDepth 20000 in
set_option maxHeartbeats 1000000 in
theorem rGcd_any (a b : List UInt8) (w : World) (ha : a.length ≤ 100000) (hb : b.length ≤ 100000) : Calls Tryz.prog 57 #[S a, S b] w (StrPost (txtL (Int.gcd (val a) (val b) : Nat)) w) := by
  have HDa := Lib.hid (rDigits_any a w (by omega))
  have HDb := Lib.hid (rDigits_any b w (by omega))
  have HPO := Lib.hid (show StrPost (txtL (Int.gcd (val a) (val b) : Nat)) w = fun e w' => e = .returned (S (txtL (Int.gcd (val a) (val b) : Nat))) ∧ Below w.heap.size w w' from rfl)
  have HGV := Lib.hid (gcd_val a b)
  have HLA := Lib.hid (Nat.le_trans (digL_len a) ha)
  have HLB := Lib.hid (Nat.le_trans (digL_len b) hb)
  rw [← txt_dig a] at HDa HLA
  rw [← txt_dig b] at HDb HLB
  generalize StrPost (txtL (Int.gcd (val a) (val b) : Nat)) w = post at *
  generalize Int.gcd (val a) (val b) = G at *
  generalize valD (digL a).1 = u at *
  generalize valD (digL b).1 = v at *
  generalize (digL a).2 = na at *
  generalize (digL b).2 = nb at *
  clear ha hb
  unfold S at *
  go_enter Tryz.func57, Tryz.ntmps57
  go_wp2_with fail
  refine HDa.out.mono ?_
  rintro e w1 ⟨rfl, rfl⟩
  go_wp2_with fail
  refine HDb.out.mono ?_
  rintro e w1 ⟨rfl, rfl⟩
  go_wp2_with fail
  go_loopw [9, 10] (fun s t wr => ∃ m n : Nat, s = .string ⟨(txtL (m : Int)).toArray⟩ ∧ t = .string ⟨(txtL (n : Int)).toArray⟩ ∧ Hid (Nat.gcd m n = G) ∧ Hid ((txtL (m : Int)).length ≤ 100000) ∧ Hid ((txtL (n : Int)).length ≤ 100000) ∧ Below w.heap.size w wr) (fun _ t _ => strM t)
  case atStart => exact ⟨u, v, rfl, rfl, HGV, HLA, HLB, Below.refl _ _⟩
  case round =>
    clear HDa HDb HGV HLA HLB
    obtain ⟨m, n, rfl, rfl, HG, HM, HN, hbl⟩ := hrel
    by_cases hn : n = 0
    · subst hn
      have HGm := Lib.hid (show m = G by have := HG.out; rwa [Nat.gcd_zero_right] at this)
      have hz : txtL ((0 : Nat) : Int) = [] := rfl
      rw [hz]
      clear HG HM HN
      go_wp2_with fail
      first | go_ret | skip
      rw [HPO.out, HGm.out]
      exact ⟨rfl, hbl⟩
    · have hne : (txtL (n : Int) == []) = false := by
        rw [Bool.eq_false_iff]
        intro h
        have := txtL_nil.1 (eq_of_beq h)
        omega
      have HDV := Lib.hid (rDiv_any (txtL (m : Int)) (txtL (n : Int)) wr HM.out HN.out)
      rw [val_txtL, val_txtL] at HDV
      have HNE := Lib.hid hn
      have HME := Lib.hid (show strM (.string ⟨(txtL ((m % n : Nat) : Int)).toArray⟩) < strM (.string ⟨(txtL (n : Int)).toArray⟩) by
        rw [strM_eq, strM_eq, val_txtL, val_txtL]
        have := Nat.mod_lt m (Nat.pos_of_ne_zero hn)
        omega)
      have HFM := Lib.hid (fmod_nat m n)
      clear hn
      unfold S at *
      go_wp2_with fail
      refine HDV.out.mono ?_
      intro e w1 h1
      obtain ⟨rfl, hb1⟩ := Div3_ok (by have := HNE.out; omega) h1
      clear h1
      rw [HFM.out]
      go_wp2_with fail
      go_roundw
      case rel => exact ⟨n, m % n, rfl, rfl, by show _ = _; rw [← HG.out, Nat.gcd_comm m n, Nat.gcd_rec n m, Nat.gcd_comm], HN, mod_len HNE.out HN.out, hbl.trans (hb1.mono hbl.size)⟩
      case measure => exact HME.out
end Go.Proofs.YtaiikjgoofefgaaGreatDoor
/- Contracts of fraction's made and parts. -/
namespace Go.Proofs.YtaiikjgoofefgaaGreatDoor
open Go.RowKit Go.Shelf

theorem one_txt : txtL 1 = [49] := by
  rw [show (1 : Int) = ((1 : Nat) : Int) from rfl, txtL_nat]
  unfold digs
  rw [if_neg (by omega), Lib.decDigits, dif_pos (by omega)]
  decide
theorem one_val : val [49] = 1 := by rw [← one_txt, val_txtL]
set_option maxRecDepth 20000 in
set_option maxHeartbeats 1000000 in
theorem made_any (n d : List UInt8) (w : World) (hp : Pow w) (hn : n.length ≤ 50000) (hd : d.length ≤ 50000) (hd0 : val d ≠ 0) :
    Calls Tryz.prog 30 #[S n, S d] w (FracPost (frOf (Rat.divInt (val n) (val d))) w) := by
  have hbA : Below w.heap.size w (w.alloc (.cells #[.string ⟨#[]⟩, .string ⟨#[]⟩] 24)) := (Below.refl _ _).alloc (Nat.le_refl _) _
  have HRD := Lib.hid (reduced_any n d (w.alloc (.cells #[.string ⟨#[]⟩, .string ⟨#[]⟩] 24)) (hp.here hbA) hn hd hd0)
  have HPO := Lib.hid (show FracPost (frOf (Rat.divInt (val n) (val d))) w = fun e w' => e = .returned (FrV (frOf (Rat.divInt (val n) (val d)))) ∧ Below w.heap.size w w' from rfl)
  have HB := Lib.hid (show FrB (w.alloc (.cells #[.string ⟨#[]⟩, .string ⟨#[]⟩] 24)) w.heap.size Fr.zero from FrB.new w Fr.zero)
  have HBA := Lib.hid hbA
  generalize FracPost (frOf (Rat.divInt (val n) (val d))) w = post at *
  generalize Rat.divInt (val n) (val d) = q at *
  clear hn hd hp hd0 hbA
  unfold S at *
  go_enter Tryz.func30, Tryz.ntmps30
  go_wp2_with fail
  generalize w.alloc (.cells #[.string ⟨#[]⟩, .string ⟨#[]⟩] 24) = W at *
  refine HRD.out.mono ?_
  rintro e w1 ⟨rfl, hb1⟩
  unfold S
  have HB1 := Lib.hid (HB.out.here hb1)
  obtain ⟨c0, c1⟩ := HB1.out.cells
  have f0 := HB1.out.frozen 0; have f1 := HB1.out.frozen 1
  have hb01 := HBA.out.trans (hb1.mono HBA.out.size)
  by_cases h1 : q.den = 1
  · have HF := Lib.hid (show FrV (frOf q) = .agg #[.string ⟨(txtL q.num).toArray⟩, .string ⟨#[]⟩] by unfold FrV frOf; simp only [if_pos h1]; rfl)
    rw [show txtL (q.den : Int) = [49] by rw [h1]; exact one_txt]
    clear h1
    go_wp2_with fail
    refine bodyPost_ret (v := .agg #[.string ⟨(txtL q.num).toArray⟩, .string ⟨#[]⟩]) (by simp [results, Tryz.results30, go_sem, c0, c1]) rfl ?_
    rw [HPO.out, HF.out]
    exact ⟨rfl, (hb01.setCell (p := ⟨w.heap.size, 0, none⟩) (Nat.le_refl _) _).setCell (p := ⟨w.heap.size, 1, none⟩) (Nat.le_refl _) _⟩
  · have HF := Lib.hid (show FrV (frOf q) = .agg #[.string ⟨(txtL q.num).toArray⟩, .string ⟨(txtL q.den).toArray⟩] by unfold FrV frOf; simp only [if_neg h1]; rfl)
    have hne : (txtL (q.den : Int) == [49]) = false := by
      rw [Bool.eq_false_iff]
      intro h
      have h := eq_of_beq h
      exact h1 (by rw [← one_txt] at h; have := txtL_inj h; omega)
    clear h1
    generalize txtL (q.den : Int) = t at *
    go_wp2_with fail
    refine bodyPost_ret (v := .agg #[.string ⟨(txtL q.num).toArray⟩, .string ⟨t.toArray⟩]) (by simp [results, Tryz.results30, go_sem, c0, c1]) rfl ?_
    rw [HPO.out, HF.out]
    exact ⟨rfl, (hb01.setCell (p := ⟨w.heap.size, 0, none⟩) (Nat.le_refl _) _).setCell (p := ⟨w.heap.size, 1, none⟩) (Nat.le_refl _) _⟩
/-- The denominator as it is, 1 for 0. -/
def Fr.dt (f : Fr) : List UInt8 := if val f.d = 0 then [49] else f.d
theorem Fr.val_dt (f : Fr) : val f.dt = f.dv := by
  unfold Fr.dt Fr.dv
  split
  · exact one_val
  · rfl
theorem Fr.dt_len {f : Fr} {L : Nat} (h : f.d.length ≤ L) (hL : 1 ≤ L) : f.dt.length ≤ L := by
  unfold Fr.dt
  split
  · exact hL
  · exact h
set_option maxRecDepth 20000 in
set_option maxHeartbeats 1000000 in
theorem parts_any (f : Fr) (w : World) (hd : f.d.length ≤ 100000) : Calls Tryz.prog 29 #[FrV f] w (TwoPost f.n f.dt w) := by
  have hbA : Below w.heap.size w (w.alloc (.cells #[.string ⟨f.n.toArray⟩, .string ⟨f.d.toArray⟩] 24)) := (Below.refl _ _).alloc (Nat.le_refl _) _
  have HCM := Lib.hid (Compare_any f.d [] (w.alloc (.cells #[.string ⟨f.n.toArray⟩, .string ⟨f.d.toArray⟩] 24)) hd (by simp))
  rw [show val ([] : List UInt8) = 0 from val_nil, Int.sub_zero] at HCM
  have HPO := Lib.hid (show TwoPost f.n f.dt w = fun e w' => e = .returned (.tuple #[S f.n, S f.dt]) ∧ Below w.heap.size w w' from rfl)
  have HB := Lib.hid (FrB.new w f)
  have HBA := Lib.hid hbA
  generalize TwoPost f.n f.dt w = post at *
  obtain ⟨c0, c1⟩ := HB.out.cells
  clear hbA hd
  unfold S FrV at *
  unfold S
  go_enter Tryz.func29, Tryz.ntmps29
  go_wp2_with fail
  generalize w.alloc (.cells #[.string ⟨f.n.toArray⟩, .string ⟨f.d.toArray⟩] 24) = W at *
  refine HCM.out.mono ?_
  rintro e w1 ⟨rfl, hb1⟩
  have HB1 := Lib.hid (HB.out.here hb1)
  clear c0 c1
  obtain ⟨c0, c1⟩ := HB1.out.cells
  have hb01 := HBA.out.trans (hb1.mono HBA.out.size)
  by_cases h0 : val f.d = 0
  · have hs : (sgnI (val f.d) == 0) = true := by rw [h0]; rfl
    rw [show f.dt = [49] by unfold Fr.dt; rw [if_pos h0]] at HPO
    clear h0
    go_wp2_with fail
    rw [HPO.out]
    exact ⟨rfl, hb01⟩
  · have hs : (sgnI (val f.d) == 0) = false := by unfold sgnI; (repeat' split) <;> simp <;> omega
    rw [show f.dt = f.d by unfold Fr.dt; rw [if_neg h0]] at HPO
    clear h0
    go_wp2_with fail
    go_quiet (fail)
    go_wp2_with fail
    rw [HPO.out]
    exact ⟨rfl, bdN hb01 _⟩
end Go.Proofs.YtaiikjgoofefgaaGreatDoor
