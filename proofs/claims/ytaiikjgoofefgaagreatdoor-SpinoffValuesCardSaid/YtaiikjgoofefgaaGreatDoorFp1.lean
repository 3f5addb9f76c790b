/- Contracts of fraction's reduced, made, parts. -/
import Derived.Test.YtaiikjgoofefgaaGreatDoorGd
import Derived.Test.YtaiikjgoofefgaaGreatDoorFR
namespace Go.Proofs.YtaiikjgoofefgaaGreatDoor
open Go.RowKit Go.Shelf

/-- A fraction's value, and a fraction in a block of its own. -/
def FrV (f : Fr) : Value := .agg #[S f.n, S f.d]
def FrB (w : World) (p : Nat) (f : Fr) : Prop := w.heap[p]? = some (.cells #[S f.n, S f.d] 24 (0, 0))
section
variable {w w' : World} {p : Nat} {f : Fr}
theorem FrB.lt (h : FrB w p f) : p < w.heap.size := (Array.getElem?_eq_some_iff.1 h).1
theorem FrB.cells (h : FrB w p f) : w.cell? ⟨p, 0, none⟩ = some (.string ⟨f.n.toArray⟩) ∧ w.cell? ⟨p, 1, none⟩ = some (.string ⟨f.d.toArray⟩) :=
  ⟨cell_of_row w p 0 _ 24 (0, 0) h, cell_of_row w p 1 _ 24 (0, 0) h⟩
theorem FrB.frozen (h : FrB w p f) (j : Nat) : w.frozen? ⟨p, j, none⟩ = false := by
  unfold FrB at h
  simp [World.frozen?, h]
theorem FrB.below {N : Nat} (h : FrB w p f) (hb : Below N w w') (hg : p < N) : FrB w' p f := (hb.block p hg).trans h
theorem FrB.here (h : FrB w p f) (hb : Below w.heap.size w w') : FrB w' p f := h.below hb h.lt
theorem FrB.new (w : World) (f : Fr) : FrB (w.alloc (.cells #[.string ⟨f.n.toArray⟩, .string ⟨f.d.toArray⟩] 24)) w.heap.size f := heap_alloc_new w _
theorem FrB.alloc (h : FrB w p f) (o : Obj) : FrB (w.alloc o) p f := (Below.heap_alloc w o p h.lt).trans h
theorem FrB.far (h : FrB w p f) {a : Addr} (hp : p ≠ a.block) (u : Value) : FrB (w.setCell a u) p f := (Below.heap_setCell w a u p hp).trans h
end
/-- What a function gives that returns a fraction. -/
def FracPost (f : Fr) (w : World) (e : Ending) (w' : World) : Prop := e = .returned (FrV f) ∧ Below w.heap.size w w'
/-- What a function gives that returns two texts. -/
def TwoPost (x y : List UInt8) (w : World) (e : Ending) (w' : World) : Prop := e = .returned (.tuple #[S x, S y]) ∧ Below w.heap.size w w'
theorem Div3_ok {a b : Int} (hb : b ≠ 0) {w w' : World} {e : Ending} (h : Div3Post a b w e w') : e = .returned (.tuple #[.string ⟨(txtL (a.fdiv b)).toArray⟩, .string ⟨(txtL (a.fmod b)).toArray⟩, .int .i64 0]) ∧ Below w.heap.size w w' := by
  unfold Div3Post at h
  rw [if_neg hb] at h
  exact h
theorem gcd_len (n : Int) {d : List UInt8} (hd : val d ≠ 0) : (txtL (Int.gcd n (val d) : Nat)).length ≤ d.length + 1 := by
  refine txtL_length ?_
  have h1 := val_lt d
  have h2 : Int.gcd n (val d) ≤ (val d).natAbs := Nat.le_of_dvd (by omega) (Nat.gcd_dvd_right _ _)
  simp
  omega
set_option maxRecDepth 20000 in
set_option maxHeartbeats 1000000 in
theorem reduced_any (n d : List UInt8) (w : World) (hp : Pow w) (hn : n.length ≤ 50000) (hd : d.length ≤ 50000) (hd0 : val d ≠ 0) :
    Calls Tryz.prog 52 #[S n, S d] w (TwoPost (txtL (Rat.divInt (val n) (val d)).num) (txtL (Rat.divInt (val n) (val d)).den) w) := by
  have HCM := Lib.hid (Compare_any d [] w (by omega) (by simp))
  rw [show val ([] : List UInt8) = 0 from val_nil, Int.sub_zero] at HCM
  have HPO := Lib.hid (show TwoPost (txtL (Rat.divInt (val n) (val d)).num) (txtL (Rat.divInt (val n) (val d)).den) w = fun e w' => e = .returned (.tuple #[S (txtL (Rat.divInt (val n) (val d)).num), S (txtL (Rat.divInt (val n) (val d)).den)]) ∧ Below w.heap.size w w' from rfl)
  have HN := Lib.hid hn; have HD := Lib.hid hd; have HP := Lib.hid hp
  have HNEG := Lib.hid (Rat.neg_divInt_neg (val n) (val d))
  generalize TwoPost (txtL (Rat.divInt (val n) (val d)).num) (txtL (Rat.divInt (val n) (val d)).den) w = post at *
  generalize hq : Rat.divInt (val n) (val d) = q at *
  have HQ := Lib.hid hq
  clear hn hd hp hq
  unfold S at *
  go_enter Tryz.func52, Tryz.ntmps52
  go_wp2_with fail
  refine HCM.out.mono ?_
  rintro e w1 ⟨rfl, hb1⟩
  go_upto_if 9 with (fail)
  go_cut [0, 1] (fun s t wc => ∃ n1 d1 : List UInt8, s = .string ⟨n1.toArray⟩ ∧ t = .string ⟨d1.toArray⟩ ∧ Hid (0 < val d1) ∧ Hid (Rat.divInt (val n1) (val d1) = q) ∧ Hid (n1.length ≤ 50001) ∧ Hid (d1.length ≤ 50001) ∧ Below w.heap.size w wc)
  case first =>
    by_cases hneg : val d < 0
    · have hs : sgnI (val d) = -1 := by unfold sgnI; rw [if_pos hneg]
      have HNA := Lib.hid (Neg_any n w1 (HP.out.here hb1) (by have := HN.out; omega))
      have HND := Lib.hid (fun W (hb : Below w1.heap.size w1 W) => Neg_any d W ((HP.out.here hb1).here hb) (by have := HD.out; omega))
      unfold S at HNA HND
      rw [hs]
      go_wp2_with fail
      refine HNA.out.mono ?_
      rintro e w2 ⟨rfl, hb2⟩
      go_wp2_with fail
      refine (HND.out w2 hb2).mono ?_
      rintro e w3 ⟨rfl, hb3⟩
      have hb13 := hb1.trans ((hb2.trans (hb3.mono hb2.size)).mono hb1.size)
      go_wp2_with fail
      go_meet
      refine ⟨txtL (-val n), txtL (-val d), rfl, rfl, ?_, ?_, ?_, ?_, hb13⟩
      · show _ < _; rw [val_txtL]; omega
      · show _ = _; rw [val_txtL, val_txtL, HNEG.out]
      · show _ ≤ _; have := HN.out; have := txtL_length (n := -val n) (L := n.length) (by have := val_lt n; omega); omega
      · show _ ≤ _; have := HD.out; have := txtL_length (n := -val d) (L := d.length) (by have := val_lt d; omega); omega
    · have hs : sgnI (val d) = 1 := by unfold sgnI; rw [if_neg hneg, if_pos (by omega)]
      rw [hs]
      go_wp2_with fail
      go_meet
      exact ⟨n, d, rfl, rfl, by show _ < _; omega, HQ, by show _ ≤ _; have := HN.out; omega, by show _ ≤ _; have := HD.out; omega, hb1⟩
  case rest =>
  clear HNEG HCM HQ HN HD hb1
  obtain ⟨n1, d1, rfl, rfl, H0, HQ, HN, HD, hb1⟩ := hcut
  obtain ⟨w2, rfl⟩ : ∃ W, W = wc := ⟨_, rfl⟩
  have HGC := Lib.hid (Gcd_any n1 d1 w2 (HP.out.here hb1) (by have := HN.out; omega) (by have := HD.out; omega))
  have HGL := Lib.hid (gcd_len (val n1) (d := d1) (by have := H0.out; omega))
  have HGP := Lib.hid (gcd_pos (val n1) (val d1) (by have := H0.out; omega))
  have HR1 := Lib.hid (red_num (val n1) (val d1) H0.out)
  have HR2 := Lib.hid (red_den (val n1) (val d1) H0.out)
  rw [HQ.out] at HR1 HR2
  generalize Int.gcd (val n1) (val d1) = g at *
  have HV1 := Lib.hid (fun W (hb : Below w2.heap.size w2 W) => Div_any n1 (txtL (g : Int)) W ((HP.out.here hb1).here hb) (by have := HN.out; omega) (by have := HGL.out; have := HD.out; omega))
  have HV2 := Lib.hid (fun W (hb : Below w2.heap.size w2 W) => Div_any d1 (txtL (g : Int)) W ((HP.out.here hb1).here hb) (by have := HD.out; omega) (by have := HGL.out; have := HD.out; omega))
  rw [val_txtL] at HV1 HV2
  unfold S at HGC HV1 HV2
  go_wp2_with fail
  refine HGC.out.mono ?_
  rintro e w3 ⟨rfl, hb3⟩
  go_wp2_with fail
  refine (HV1.out w3 hb3).mono ?_
  intro e w4 h4
  obtain ⟨rfl, hb4⟩ := Div3_ok (by have := HGP.out; omega) h4
  have hb34 := hb3.trans (hb4.mono hb3.size)
  clear h4
  rw [HR1.out]
  go_wp2_with fail
  refine (HV2.out w4 hb34).mono ?_
  intro e w5 h5
  obtain ⟨rfl, hb5⟩ := Div3_ok (by have := HGP.out; omega) h5
  have hb35 := hb34.trans (hb5.mono hb34.size)
  clear h5
  rw [HR2.out]
  go_wp2_with fail
  rw [HPO.out]
  exact ⟨rfl, hb1.trans (hb35.mono hb1.size)⟩
end Go.Proofs.YtaiikjgoofefgaaGreatDoor
