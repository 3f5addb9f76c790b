/- Contracts of the conditions and of the closure in the program's combine. -/
import Derived.Test.YtiefdlfninhbgaaGreatDoorP1
import Derived.Deep.RegionHeld3
namespace Go.Proofs.YtiefdlfninhbgaaGreatDoor
open Go.RowKit Go.Shelf

/-- What is asked of a condition on two bools. -/
structure Cond (g : Nat) (cond : Bool → Bool → Bool) : Prop where
  enters : ∀ args w, (callFunc g args).run Tryz.prog w = .ok (.enter g args) w
  calls : ∀ (W : World) (x y : Bool), Calls Tryz.prog g #[.bool x, .bool y] W fun e w' => e = .returned (.bool (cond x y)) ∧ W = w'

theorem cond_unite : Cond 46 (fun x y => x || y) := ⟨enters_of Tryz.func46 (by kernel_rfl) rfl, fun W x y => by
  cases x
  all_goals
    go_enter Tryz.func46, Tryz.ntmps46
    go_wp2
    go_ret
    exact ⟨rfl, rfl⟩⟩
theorem cond_minus : Cond 48 (fun x y => x && !y) := ⟨enters_of Tryz.func48 (by kernel_rfl) rfl, fun W x y => by
  cases x
  all_goals
    go_enter Tryz.func48, Tryz.ntmps48
    go_wp2
    go_ret
    exact ⟨rfl, rfl⟩⟩
theorem cond_common : Cond 49 (fun x y => x && y) := ⟨enters_of Tryz.func49 (by kernel_rfl) rfl, fun W x y => by
  cases x
  all_goals
    go_enter Tryz.func49, Tryz.ntmps49
    go_wp2
    go_ret
    exact ⟨rfl, rfl⟩⟩
theorem cond_normal : Cond 58 (fun x _ => x) := ⟨enters_of Tryz.func58 (by kernel_rfl) rfl, fun W x y => by
  go_enter Tryz.func58, Tryz.ntmps58
  go_wp2
  go_ret
  exact ⟨rfl, rfl⟩⟩

set_option maxHeartbeats 1000000 in
theorem combine1_any (g : Nat) (cond : Bool → Bool → Bool) (hc : Cond g cond) (Aa Ab : Option Addr) (na nb ca cb : Nat) (xs ys : List Reg) (d k : Int) (pc pa pf pb : Nat) (w : World)
    (ha : Rgs w w.heap.size Aa na xs) (hb : Rgs w w.heap.size Ab nb ys) (hna : na ≤ 1000000000) (hnb : nb ≤ 1000000000)
    (lc : pc < w.heap.size) (la : pa < w.heap.size) (lf : pf < w.heap.size) (lb : pb < w.heap.size)
    (cc : w.cell? ⟨pc, 0, none⟩ = some (.func (.func g) #[] #[])) (c1 : w.cell? ⟨pa, 0, none⟩ = some (.slice Aa na ca)) (cf : w.cell? ⟨pf, 0, none⟩ = some (.int .i64 d)) (c2 : w.cell? ⟨pb, 0, none⟩ = some (.slice Ab nb cb)) :
    Calls Tryz.prog 79 #[.int .i64 k, .pointer (some ⟨pc, 0, none⟩), .pointer (some ⟨pa, 0, none⟩), .pointer (some ⟨pf, 0, none⟩), .pointer (some ⟨pb, 0, none⟩)] w fun e w' => e = .returned (.bool (cond (hasL xs d k) (hasL ys d k))) ∧ Below w.heap.size w w' := by
  have eg := hc.enters
  have HC := Lib.hid hc.calls
  have HA := Lib.hid ha; have HB := Lib.hid hb; clear ha hb hc
  have hp1 := Lib.hid (fun W (h : Rgs W W.heap.size Aa na xs) => has_any Aa na ca xs d k W h hna)
  have hp2 := Lib.hid (fun W (h : Rgs W W.heap.size Ab nb ys) => has_any Ab nb cb ys d k W h hnb)
  generalize hasL xs d k = x at *
  generalize hasL ys d k = y at *
  go_enter Tryz.func79, Tryz.ntmps79
  go_wp2
  go_region_held3 (fun w' => w'.cell? ⟨pc, 0, none⟩ = some (.func (.func g) #[] #[]) ∧ w'.cell? ⟨pa, 0, none⟩ = some (.slice Aa na ca) ∧ w'.cell? ⟨pf, 0, none⟩ = some (.int .i64 d) ∧ w'.cell? ⟨pb, 0, none⟩ = some (.slice Ab nb cb))
    (first
      | exact ⟨cc, c1, cf, c2⟩
      | exact ⟨(hb1.cell (p := ⟨pc, 0, none⟩) lc).trans cc, (hb1.cell (p := ⟨pa, 0, none⟩) la).trans c1, (hb1.cell (p := ⟨pf, 0, none⟩) lf).trans cf, (hb1.cell (p := ⟨pb, 0, none⟩) lb).trans c2⟩
      | exact ⟨(HB2.out.cell (p := ⟨pc, 0, none⟩) lc).trans cc, (HB2.out.cell (p := ⟨pa, 0, none⟩) la).trans c1, (HB2.out.cell (p := ⟨pf, 0, none⟩) lf).trans cf, (HB2.out.cell (p := ⟨pb, 0, none⟩) lb).trans c2⟩)
    (first
      | (go_at_call_of 44 (Value.slice Aa na ca); refine (hp1.out _ HA.out.drew).mono ?_; rintro e w1 ⟨rfl, hb1⟩)
      | (go_at_call_of 44 (Value.slice Ab nb cb); refine (hp2.out _ (HB.out.drew.here hb1)).mono ?_; rintro e w2 ⟨rfl, hb2⟩; have HB2 := Lib.hid (hb1.trans (hb2.mono hb1.size)))
      | (go_at_fn g; refine (HC.out _ _ _).mono ?_; rintro e w3 ⟨rfl, rfl⟩))
  all_goals
    go_wp2
    go_ret
    exact ⟨rfl, (Below.refl _ w).drew.trans HB2.out⟩
end Go.Proofs.YtiefdlfninhbgaaGreatDoor
