/- Merged texts: Aw28, V0. -/
import Derived.Test.YtaiikjgoofefgaaGreatDoorSp3qG1s
/- Contracts of the statements' awake and long. -/
namespace Go.Proofs.YtaiikjgoofefgaaGreatDoor
open Go.RowKit Go.Shelf

theorem txt_of {n : Nat} {l : List UInt8} (h1 : l.all isDig = true) (h2 : ∀ b t, l = b :: t → (b == 48) = false) (h3 : valD l = n) : txtL (n : Int) = l := by
  rw [txtL_nat, ← h3, digs_valD h1 h2]
theorem fr_nat {n : Nat} {l : List UInt8} (h1 : l.all isDig = true) (h2 : ∀ b t, l = b :: t → (b == 48) = false) (h3 : valD l = n) : frOf (n : Rat) = ⟨l, []⟩ := by
  unfold frOf
  simp only [Rat.num_natCast, Rat.den_natCast, if_true]
  rw [txt_of h1 h2 h3]
theorem hd_ok {b : UInt8} {t : List UInt8} (h : (b == 48) = false) : ∀ c u, b :: t = c :: u → (c == 48) = false := fun c u e => by injection e with e1 _; rw [← e1]; exact h
theorem f100 : frOf 100 = ⟨[49, 48, 48], []⟩ := fr_nat (n := 100) (by decide) (hd_ok (by decide)) (by decide)
theorem f30 : frOf 30 = ⟨[51, 48], []⟩ := fr_nat (n := 30) (by decide) (hd_ok (by decide)) (by decide)
theorem f85 : frOf 85 = ⟨[56, 53], []⟩ := fr_nat (n := 85) (by decide) (hd_ok (by decide)) (by decide)
theorem fhalf : frOf (1 / 2) = ⟨[49], [50]⟩ := by
  have h1 : ((1 : Rat) / 2).num = ((1 : Nat) : Int) := by decide +kernel
  have h2 : ((1 : Rat) / 2).den = 2 := by decide +kernel
  unfold frOf
  rw [h1, h2, if_neg (by omega), txt_of (l := [49]) (by decide) (hd_ok (by decide)) (by decide), txt_of (l := [50]) (by decide) (hd_ok (by decide)) (by decide)]
theorem f320 : frOf (3 / 20) = ⟨[51], [50, 48]⟩ := by
  have h1 : ((3 : Rat) / 20).num = ((3 : Nat) : Int) := by decide +kernel
  have h2 : ((3 : Rat) / 20).den = 20 := by decide +kernel
  unfold frOf
  rw [h1, h2, if_neg (by omega), txt_of (l := [51]) (by decide) (hd_ok (by decide)) (by decide), txt_of (l := [50, 48]) (by decide) (hd_ok (by decide)) (by decide)]
theorem chk_fr {a b c : Rat} (ha : 0 ≤ a) (hb : 0 ≤ b) (hc : 0 < c) : chkS (frOf a) (frOf b) (frOf c) = 0 := by
  unfold chkS
  rw [if_pos ⟨frOf_ok _, frOf_ok _, frOf_ok _⟩, if_neg]
  rw [rat_frOf, rat_frOf, rat_frOf, frOf_zero_iff]
  rintro (h | h | h | h)
  · exact Rat.not_le.2 h ha
  · exact Rat.not_le.2 h hb
  · exact Rat.not_le.2 h (Rat.le_of_lt hc)
  · rw [h] at hc; exact Rat.lt_irrefl hc
theorem aw_price : priceL ⟨[49, 48, 48], []⟩ ⟨[51, 48], []⟩ ⟨[49], [50]⟩ = (⟨[56, 53], []⟩, 0) := by
  rw [← f100, ← f30, ← fhalf, ← f85]
  unfold priceL
  rw [if_pos (chk_fr (by decide +kernel) (by decide +kernel) (by decide +kernel)), rat_frOf, rat_frOf, rat_frOf, show (100 : Rat) - 30 * (1 / 2) = 85 by decide +kernel, if_neg (by decide +kernel)]
theorem aw_share : shareL ⟨[56, 53], []⟩ ⟨[51, 48], []⟩ ⟨[49], [50]⟩ = (⟨[51], [50, 48]⟩, 0) := by
  rw [← f85, ← f30, ← fhalf, ← f320]
  unfold shareL
  rw [if_pos (chk_fr (by decide +kernel) (by decide +kernel) (by decide +kernel)), rat_frOf, rat_frOf, rat_frOf]
  unfold quoL
  rw [if_neg (by decide +kernel), show (30 : Rat) * (1 / 2) / (85 + 30 * (1 / 2)) = 3 / 20 by decide +kernel]
set_option maxRecDepth 20000 in
set_option maxHeartbeats 1000000 in
theorem awake_any (w : World) (hp : Pow w) : Calls Tryz.prog 6 #[] w fun e w' => e = .returned (.bool true) ∧ Below w.heap.size w w' := by
  have HPR := Lib.hid (Price_any ⟨[49, 48, 48], []⟩ ⟨[51, 48], []⟩ ⟨[49], [50]⟩ w hp ⟨by simp, by simp⟩ ⟨by simp, by simp⟩ ⟨by simp, by simp⟩)
  have HSH := Lib.hid (fun W hp => Share_any ⟨[56, 53], []⟩ ⟨[51, 48], []⟩ ⟨[49], [50]⟩ W hp ⟨by simp, by simp⟩ ⟨by simp, by simp⟩ ⟨by simp, by simp⟩)
  rw [aw_price] at HPR
  rw [aw_share] at HSH
  have HP := Lib.hid hp
  clear hp
  unfold FrV at *
  unfold S at *
  go_enter Tryz.func6, Tryz.ntmps6
  go_wp2_with fail
  refine HPR.out.mono ?_
  rintro e w1 ⟨rfl, hb1⟩
  unfold FrV S
  have hbA := (Below.refl w1.heap.size w1).alloc (Nat.le_refl _) (.cells #[.string ⟨#[56, 53]⟩, .string ⟨#[]⟩] 24)
  have HB1 := Lib.hid (show FrB (w1.alloc (.cells #[.string ⟨#[56, 53]⟩, .string ⟨#[]⟩] 24)) w1.heap.size ⟨[56, 53], []⟩ from FrB.new w1 ⟨[56, 53], []⟩)
  have hb0A := hb1.trans (hbA.mono hb1.size)
  go_wp2_with fail
  generalize w1.alloc (.cells #[.string ⟨#[56, 53]⟩, .string ⟨#[]⟩] 24) = W at *
  refine (HSH.out W (HP.out.here hb0A)).mono ?_
  rintro e w2 ⟨rfl, hb2⟩
  unfold FrV S
  have HB2 := Lib.hid (HB1.out.here hb2)
  obtain ⟨x0, x1⟩ := HB2.out.cells
  have hlt : w1.heap.size < w2.heap.size := HB2.out.lt
  have hne : w1.heap.size ≠ w2.heap.size := by omega
  have hb02 := hb0A.trans (hb2.mono hb0A.size)
  go_wp2_with fail
  go_ret
  exact ⟨rfl, hb02.alloc hb02.size _⟩
set_option maxRecDepth 20000 in
theorem long1_any (f : Fr) (w : World) (h1 : f.n.length ≤ maxLen) (h2 : f.d.length ≤ maxLen) : Calls Tryz.prog 17 #[FrV f] w fun e w' => e = .returned (.bool (decide (10 < f.n.length ∨ 10 < f.d.length))) ∧ Below w.heap.size w w' := by
  obtain ⟨x0, x1⟩ := (FrB.new w f).cells
  have hbA : Below w.heap.size w (w.alloc (.cells #[.string ⟨f.n.toArray⟩, .string ⟨f.d.toArray⟩] 24)) := (Below.refl _ _).alloc (Nat.le_refl _) _
  have HBA := Lib.hid hbA; clear hbA h1 h2
  unfold FrV S
  by_cases ha : 10 < f.n.length
  · have HD := Lib.hid (show decide (10 < f.n.length ∨ 10 < f.d.length) = true by simp [ha])
    go_enter Tryz.func17, Tryz.ntmps17
    go_wp2_with fail
    go_ret
    exact ⟨rfl, HBA.out⟩
  · have hdec : decide (10 < f.n.length) = false := by simpa using ha
    have HD := Lib.hid (show decide (10 < f.d.length) = decide (10 < f.n.length ∨ 10 < f.d.length) by simp [ha])
    go_enter Tryz.func17, Tryz.ntmps17
    go_wp2_with fail
    go_ret
    refine ⟨?_, HBA.out⟩
    rw [← HD.out]
    simp
    rw [Bool.eq_iff_iff]
    simp
    omega
end Go.Proofs.YtaiikjgoofefgaaGreatDoor
/- Words for the walks of SpinoffValues and SpinoffShares: long; three fractions in blocks. -/
namespace Go.Proofs.YtaiikjgoofefgaaGreatDoor
open Go.RowKit Go.Shelf

def longF (f : Fr) : Bool := decide (10 < f.n.length ∨ 10 < f.d.length)
theorem longF_no {f : Fr} (h : longF f = false) : f.Sz 10 := by
  unfold longF at h
  simp at h
  exact ⟨by omega, by omega⟩
set_option maxRecDepth 20000 in
theorem long_any (A : Option Addr) (c : Nat) (p v r : Fr) (w : World) (hs : Frs w w.heap.size A 3 [p, v, r]) (hl : ∀ x ∈ [p, v, r], x.n.length ≤ maxLen ∧ x.d.length ≤ maxLen) :
    Calls Tryz.prog 5 #[.slice A 3 c] w fun e w' => e = .returned (.bool (longF p || longF v || longF r)) ∧ Below w.heap.size w w' := by
  have HC := Lib.hid (containsF_any 17 longF A 3 c [p, v, r] w (enters_of Tryz.func17 (by kernel_rfl) rfl) (fun W x hx hb => long1_any x W (hl x hx).1 (hl x hx).2) hs (by omega))
  rw [show [p, v, r].any longF = (longF p || longF v || longF r) by simp [Bool.or_assoc]] at HC
  generalize (longF p || longF v || longF r) = bb at *
  clear hs hl
  go_enter Tryz.func5, Tryz.ntmps5
  go_wp2_with fail
  refine HC.out.mono ?_
  rintro e w1 ⟨rfl, hb1⟩
  go_wp2_with fail
  go_ret
  exact ⟨rfl, hb1⟩
/-- Three fractions in blocks of their own. -/
structure FrT (w : World) (p : Nat) (f g h : Fr) (W : World) : Prop where
  a : FrB W p f
  b : FrB W (p + 1) g
  c : FrB W (p + 1 + 1) h
  bl : Below w.heap.size w W
  hp : w.heap.size ≤ p
theorem FrT.here {w : World} {p : Nat} {f g h : Fr} {W W' : World} (H : FrT w p f g h W) (hb : Below W.heap.size W W') : FrT w p f g h W' := ⟨H.a.here hb, H.b.here hb, H.c.here hb, H.bl.trans (hb.mono H.bl.size), H.hp⟩
theorem FrT.new (w : World) (f g h : Fr) : FrT w w.heap.size f g h (((w.alloc (.cells #[.string ⟨f.n.toArray⟩, .string ⟨f.d.toArray⟩] 24)).alloc (.cells #[.string ⟨g.n.toArray⟩, .string ⟨g.d.toArray⟩] 24)).alloc (.cells #[.string ⟨h.n.toArray⟩, .string ⟨h.d.toArray⟩] 24)) := by
  refine ⟨((FrB.new w f).alloc _).alloc _, ?_, ?_, (((Below.refl _ _).alloc (Nat.le_refl _) _).alloc (by simp) _).alloc (by simp; omega) _, Nat.le_refl _⟩
  · have := (FrB.new (w.alloc (.cells #[.string ⟨f.n.toArray⟩, .string ⟨f.d.toArray⟩] 24)) g).alloc (.cells #[.string ⟨h.n.toArray⟩, .string ⟨h.d.toArray⟩] 24)
    simp only [World.size_alloc] at this
    exact this
  · have := FrB.new ((w.alloc (.cells #[.string ⟨f.n.toArray⟩, .string ⟨f.d.toArray⟩] 24)).alloc (.cells #[.string ⟨g.n.toArray⟩, .string ⟨g.d.toArray⟩] 24)) h
    simp only [World.size_alloc] at this
    exact this
def TruePost (w : World) (e : Ending) (w' : World) : Prop := e = .returned (.bool true) ∧ Below w.heap.size w w'
end Go.Proofs.YtaiikjgoofefgaaGreatDoor
