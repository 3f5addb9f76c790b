/- Contracts of fraction's four operations (closures over the multiplication). -/
import Derived.Test.YtaiikjgoofefgaaGreatDoorQG1s11
namespace Go.Proofs.YtaiikjgoofefgaaGreatDoor
open Go.RowKit Go.Shelf

/-- What is asked of an operation. -/
structure FOp (g : Nat) (F : Int → Int → Int → Int → Int × Int) : Prop where
  enters : ∀ args w, (callFunc g args).run Tryz.prog w = .ok (.enter g args) w
  calls : ∀ (a b c d : List UInt8) (p : Nat) (W : World), p < W.heap.size → W.cell? ⟨p, 0, none⟩ = some (.func (.func 43) #[] #[]) → Pow W → a.length ≤ 20000 → b.length ≤ 20000 → c.length ≤ 20000 → d.length ≤ 20000 →
    Calls Tryz.prog g #[S a, S b, S c, S d, .pointer (some ⟨p, 0, none⟩)] W (TwoPost (txtL (F (val a) (val b) (val c) (val d)).1) (txtL (F (val a) (val b) (val c) (val d)).2) W)
theorem mul_len {a b : List UInt8} {L : Nat} (ha : a.length ≤ L) (hb : b.length ≤ L) : (txtL (val a * val b)).length ≤ L + L + 1 := txtL_length (mul_lt_pow (val_lt' ha) (val_lt' hb))

set_option maxRecDepth 20000 in
set_option maxHeartbeats 1000000 in
theorem fop1 : FOp 44 (fun a b c d => (a * d + c * b, b * d)) := ⟨enters_of Tryz.func44 (by kernel_rfl) rfl, fun a b c d p w hp0 hc hp ha hb hcl hd => by
  have HP := Lib.hid hp; have HC := Lib.hid hc
  have HM0 := Lib.hid (fun W (hb : Below w.heap.size w W) => Mul_any a d W (HP.out.here hb) (by omega) (by omega))
  have HM1 := Lib.hid (fun W (hb : Below w.heap.size w W) => Mul_any c b W (HP.out.here hb) (by omega) (by omega))
  have HM2 := Lib.hid (fun W (hb : Below w.heap.size w W) => Mul_any b d W (HP.out.here hb) (by omega) (by omega))
  have HA := Lib.hid (fun W (hb : Below w.heap.size w W) => Add_any (txtL (val a * val d)) (txtL (val c * val b)) W (HP.out.here hb) (by have := mul_len (a := a) (b := d) (L := 20000) (by omega) (by omega); omega) (by have := mul_len (a := c) (b := b) (L := 20000) (by omega) (by omega); omega))
  rw [val_txtL, val_txtL] at HA
  have HPO := Lib.hid (show TwoPost (txtL (val a * val d + val c * val b)) (txtL (val b * val d)) w = fun e w' => e = .returned (.tuple #[S (txtL (val a * val d + val c * val b)), S (txtL (val b * val d))]) ∧ Below w.heap.size w w' from rfl)
  show Calls _ _ _ _ (TwoPost (txtL (val a * val d + val c * val b)) (txtL (val b * val d)) w)
  generalize TwoPost (txtL (val a * val d + val c * val b)) (txtL (val b * val d)) w = post at *
  clear hp hc ha hb hcl hd
  have c0 := HC.out
  have em : ∀ args w, (callFunc 43 args).run Tryz.prog w = .ok (.enter 43 args) w := enters_of Tryz.func43 (by kernel_rfl) rfl
  unfold S at *
  go_enter Tryz.func44, Tryz.ntmps44
  go_wp2_with fail
  go_region_held3 (fun w' => w'.cell? ⟨p, 0, none⟩ = some (.func (.func 43) #[] #[]))
    (first
      | go_keep
      | exact (hz0.cell (p := ⟨p, 0, none⟩) hp0).trans HC.out
      | exact (hz1.cell (p := ⟨p, 0, none⟩) hp0).trans HC.out
      | exact (hz2.cell (p := ⟨p, 0, none⟩) hp0).trans HC.out
      | exact (hz3.cell (p := ⟨p, 0, none⟩) hp0).trans HC.out)
    (first
      | (go_at_call_of 43 (Value.string ⟨a.toArray⟩); refine (HM0.out _ ((Below.refl _ w).drew)).mono ?_; rintro e w0 ⟨rfl, hb0⟩; have hz0 : Below w.heap.size w w0 := ((Below.refl _ w).drew).trans (hb0.mono (by first | exact Nat.le_refl _ | exact ((Below.refl _ w).drew).size)))
      | (go_at_call_of 43 (Value.string ⟨c.toArray⟩); refine (HM1.out _ (hz0)).mono ?_; rintro e w1 ⟨rfl, hb1⟩; have hz1 : Below w.heap.size w w1 := (hz0).trans (hb1.mono (by first | exact Nat.le_refl _ | exact (hz0).size)))
      | (go_at_call 45; refine (HA.out _ (hz1)).mono ?_; rintro e w2 ⟨rfl, hb2⟩; have hz2 : Below w.heap.size w w2 := (hz1).trans (hb2.mono (by exact (hz1).size)))
      | (go_at_call_of 43 (Value.string ⟨b.toArray⟩); refine (HM2.out _ (hz2)).mono ?_; rintro e w3 ⟨rfl, hb3⟩; have hz3 : Below w.heap.size w w3 := (hz2).trans (hb3.mono (by first | exact Nat.le_refl _ | exact (hz2).size))))
  all_goals
    go_wp2_with fail
    rw [HPO.out]
    exact ⟨rfl, hz3⟩⟩
set_option maxRecDepth 20000 in
set_option maxHeartbeats 1000000 in
theorem fop2 : FOp 46 (fun a b c d => (a * d - c * b, b * d)) := ⟨enters_of Tryz.func46 (by kernel_rfl) rfl, fun a b c d p w hp0 hc hp ha hb hcl hd => by
  have HP := Lib.hid hp; have HC := Lib.hid hc
  have HM0 := Lib.hid (fun W (hb : Below w.heap.size w W) => Mul_any a d W (HP.out.here hb) (by omega) (by omega))
  have HM1 := Lib.hid (fun W (hb : Below w.heap.size w W) => Mul_any c b W (HP.out.here hb) (by omega) (by omega))
  have HM2 := Lib.hid (fun W (hb : Below w.heap.size w W) => Mul_any b d W (HP.out.here hb) (by omega) (by omega))
  have HA := Lib.hid (fun W (hb : Below w.heap.size w W) => Sub_any (txtL (val a * val d)) (txtL (val c * val b)) W (HP.out.here hb) (by have := mul_len (a := a) (b := d) (L := 20000) (by omega) (by omega); omega) (by have := mul_len (a := c) (b := b) (L := 20000) (by omega) (by omega); omega))
  rw [val_txtL, val_txtL] at HA
  have HPO := Lib.hid (show TwoPost (txtL (val a * val d - val c * val b)) (txtL (val b * val d)) w = fun e w' => e = .returned (.tuple #[S (txtL (val a * val d - val c * val b)), S (txtL (val b * val d))]) ∧ Below w.heap.size w w' from rfl)
  show Calls _ _ _ _ (TwoPost (txtL (val a * val d - val c * val b)) (txtL (val b * val d)) w)
  generalize TwoPost (txtL (val a * val d - val c * val b)) (txtL (val b * val d)) w = post at *
  clear hp hc ha hb hcl hd
  have c0 := HC.out
  have em : ∀ args w, (callFunc 43 args).run Tryz.prog w = .ok (.enter 43 args) w := enters_of Tryz.func43 (by kernel_rfl) rfl
  unfold S at *
  go_enter Tryz.func46, Tryz.ntmps46
  go_wp2_with fail
  go_region_held3 (fun w' => w'.cell? ⟨p, 0, none⟩ = some (.func (.func 43) #[] #[]))
    (first
      | go_keep
      | exact (hz0.cell (p := ⟨p, 0, none⟩) hp0).trans HC.out
      | exact (hz1.cell (p := ⟨p, 0, none⟩) hp0).trans HC.out
      | exact (hz2.cell (p := ⟨p, 0, none⟩) hp0).trans HC.out
      | exact (hz3.cell (p := ⟨p, 0, none⟩) hp0).trans HC.out)
    (first
      | (go_at_call_of 43 (Value.string ⟨a.toArray⟩); refine (HM0.out _ ((Below.refl _ w).drew)).mono ?_; rintro e w0 ⟨rfl, hb0⟩; have hz0 : Below w.heap.size w w0 := ((Below.refl _ w).drew).trans (hb0.mono (by first | exact Nat.le_refl _ | exact ((Below.refl _ w).drew).size)))
      | (go_at_call_of 43 (Value.string ⟨c.toArray⟩); refine (HM1.out _ (hz0)).mono ?_; rintro e w1 ⟨rfl, hb1⟩; have hz1 : Below w.heap.size w w1 := (hz0).trans (hb1.mono (by first | exact Nat.le_refl _ | exact (hz0).size)))
      | (go_at_call 47; refine (HA.out _ (hz1)).mono ?_; rintro e w2 ⟨rfl, hb2⟩; have hz2 : Below w.heap.size w w2 := (hz1).trans (hb2.mono (by exact (hz1).size)))
      | (go_at_call_of 43 (Value.string ⟨b.toArray⟩); refine (HM2.out _ (hz2)).mono ?_; rintro e w3 ⟨rfl, hb3⟩; have hz3 : Below w.heap.size w w3 := (hz2).trans (hb3.mono (by first | exact Nat.le_refl _ | exact (hz2).size))))
  all_goals
    go_wp2_with fail
    rw [HPO.out]
    exact ⟨rfl, hz3⟩⟩
set_option maxRecDepth 20000 in
set_option maxHeartbeats 1000000 in
theorem fop3 : FOp 48 (fun a b c d => (a * c, b * d)) := ⟨enters_of Tryz.func48 (by kernel_rfl) rfl, fun a b c d p w hp0 hc hp ha hb hcl hd => by
  have HP := Lib.hid hp; have HC := Lib.hid hc
  have HM0 := Lib.hid (fun W (hb : Below w.heap.size w W) => Mul_any a c W (HP.out.here hb) (by omega) (by omega))
  have HM1 := Lib.hid (fun W (hb : Below w.heap.size w W) => Mul_any b d W (HP.out.here hb) (by omega) (by omega))
  have HPO := Lib.hid (show TwoPost (txtL (val a * val c)) (txtL (val b * val d)) w = fun e w' => e = .returned (.tuple #[S (txtL (val a * val c)), S (txtL (val b * val d))]) ∧ Below w.heap.size w w' from rfl)
  show Calls _ _ _ _ (TwoPost (txtL (val a * val c)) (txtL (val b * val d)) w)
  generalize TwoPost (txtL (val a * val c)) (txtL (val b * val d)) w = post at *
  clear hp hc ha hb hcl hd
  have c0 := HC.out
  have em : ∀ args w, (callFunc 43 args).run Tryz.prog w = .ok (.enter 43 args) w := enters_of Tryz.func43 (by kernel_rfl) rfl
  unfold S at *
  go_enter Tryz.func48, Tryz.ntmps48
  go_wp2_with fail
  go_region_held3 (fun w' => w'.cell? ⟨p, 0, none⟩ = some (.func (.func 43) #[] #[]))
    (first
      | go_keep
      | exact (hz0.cell (p := ⟨p, 0, none⟩) hp0).trans HC.out
      | exact (hz1.cell (p := ⟨p, 0, none⟩) hp0).trans HC.out)
    (first
      | (go_at_call_of 43 (Value.string ⟨a.toArray⟩); refine (HM0.out _ ((Below.refl _ w).drew)).mono ?_; rintro e w0 ⟨rfl, hb0⟩; have hz0 : Below w.heap.size w w0 := ((Below.refl _ w).drew).trans (hb0.mono (by first | exact Nat.le_refl _ | exact ((Below.refl _ w).drew).size)))
      | (go_at_call_of 43 (Value.string ⟨b.toArray⟩); refine (HM1.out _ (hz0)).mono ?_; rintro e w1 ⟨rfl, hb1⟩; have hz1 : Below w.heap.size w w1 := (hz0).trans (hb1.mono (by first | exact Nat.le_refl _ | exact (hz0).size))))
  all_goals
    go_wp2_with fail
    rw [HPO.out]
    exact ⟨rfl, hz1⟩⟩
set_option maxRecDepth 20000 in
set_option maxHeartbeats 1000000 in
theorem fop4 : FOp 49 (fun a b c d => (a * d, b * c)) := ⟨enters_of Tryz.func49 (by kernel_rfl) rfl, fun a b c d p w hp0 hc hp ha hb hcl hd => by
  have HP := Lib.hid hp; have HC := Lib.hid hc
  have HM0 := Lib.hid (fun W (hb : Below w.heap.size w W) => Mul_any a d W (HP.out.here hb) (by omega) (by omega))
  have HM1 := Lib.hid (fun W (hb : Below w.heap.size w W) => Mul_any b c W (HP.out.here hb) (by omega) (by omega))
  have HPO := Lib.hid (show TwoPost (txtL (val a * val d)) (txtL (val b * val c)) w = fun e w' => e = .returned (.tuple #[S (txtL (val a * val d)), S (txtL (val b * val c))]) ∧ Below w.heap.size w w' from rfl)
  show Calls _ _ _ _ (TwoPost (txtL (val a * val d)) (txtL (val b * val c)) w)
  generalize TwoPost (txtL (val a * val d)) (txtL (val b * val c)) w = post at *
  clear hp hc ha hb hcl hd
  have c0 := HC.out
  have em : ∀ args w, (callFunc 43 args).run Tryz.prog w = .ok (.enter 43 args) w := enters_of Tryz.func43 (by kernel_rfl) rfl
  unfold S at *
  go_enter Tryz.func49, Tryz.ntmps49
  go_wp2_with fail
  go_region_held3 (fun w' => w'.cell? ⟨p, 0, none⟩ = some (.func (.func 43) #[] #[]))
    (first
      | go_keep
      | exact (hz0.cell (p := ⟨p, 0, none⟩) hp0).trans HC.out
      | exact (hz1.cell (p := ⟨p, 0, none⟩) hp0).trans HC.out)
    (first
      | (go_at_call_of 43 (Value.string ⟨a.toArray⟩); refine (HM0.out _ ((Below.refl _ w).drew)).mono ?_; rintro e w0 ⟨rfl, hb0⟩; have hz0 : Below w.heap.size w w0 := ((Below.refl _ w).drew).trans (hb0.mono (by first | exact Nat.le_refl _ | exact ((Below.refl _ w).drew).size)))
      | (go_at_call_of 43 (Value.string ⟨b.toArray⟩); refine (HM1.out _ (hz0)).mono ?_; rintro e w1 ⟨rfl, hb1⟩; have hz1 : Below w.heap.size w w1 := (hz0).trans (hb1.mono (by first | exact Nat.le_refl _ | exact (hz0).size))))
  all_goals
    go_wp2_with fail
    rw [HPO.out]
    exact ⟨rfl, hz1⟩⟩
end Go.Proofs.YtaiikjgoofefgaaGreatDoor
