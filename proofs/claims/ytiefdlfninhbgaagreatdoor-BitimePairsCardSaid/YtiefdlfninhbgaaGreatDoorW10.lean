/- Contracts of the reference's Unite, Minus, Common; they are the program's. -/
import Derived.Test.YtiefdlfninhbgaaGreatDoorW9
import Derived.Test.YtiefdlfninhbgaaGreatDoorT3
namespace Go.Proofs.YtiefdlfninhbgaaGreatDoor
open Go.RowKit Go.Shelf

set_option maxRecDepth 100000 in
set_option maxHeartbeats 1000000 in
theorem rcombine_any (oA oB bo : Bool) (Aa Ab : Option Addr) (na nb ca cb : Nat) (xs ys : List Reg) (w : World) (ha : Rgs w w.heap.size Aa na xs) (hb0 : Rgs w w.heap.size Ab nb ys) (hna : na ≤ 1000000000) (hnb : nb ≤ 1000000000) :
    Calls Tryz.prog 47 #[.slice Aa na ca, .slice Ab nb cb, .bool oA, .bool oB, .bool bo] w (RetOwn2 Reg.vals 4 35 w.heap.size w (rOper (rcond oA oB bo) xs ys)) := by
  by_cases h1 : checkL xs = 0
  · by_cases h2 : checkL ys = 0
    · have := rcombine_ok oA oB bo Aa Ab na nb ca cb xs ys w ha hb0 hna hnb h1 h2
      rw [show rOper (rcond oA oB bo) xs ys = limL (refC (rcond oA oB bo) xs ys) by unfold rOper; rw [if_pos ⟨h1, h2⟩]]
      exact this
    · have HR := Lib.hid (show rOper (rcond oA oB bo) xs ys = ([], 1) by unfold rOper; rw [if_neg (fun h => h2 h.2)])
      have HC1 := Lib.hid (rCheck_any Aa na ca xs w ha hna)
      have HC2 := Lib.hid (fun (W : World) (hb : Below w.heap.size w W) => rCheck_any Ab nb cb ys W ((hb0.below hb).more hb.size) hnb)
      rw [h1] at HC1
      have hcb : (checkL ys == 0) = false := by simp [h2]
      have hcn : (checkL ys != 0) = true := by simp [h2]
      clear h1 h2 ha hb0
      go_enter Tryz.func47, Tryz.ntmps47
      go_wp2_with (first
        | (go_at_call_of 16 (Value.slice Aa na ca); refine HC1.out.mono ?_; rintro e w1 ⟨rfl, hb1⟩)
        | (go_at_call_of 16 (Value.slice Ab nb cb); refine (HC2.out _ hb1).mono ?_; rintro e w2 ⟨rfl, hb2⟩))
      go_ret2
      have hb12 := hb1.trans (hb2.mono hb1.size)
      exact RetOwn2.mk rfl HR.out (Own.lit w2 #[] 35 [] rfl Reg.vals_len hb12.size (by simp)) (hb12.alloc hb12.size _)
  · have HR := Lib.hid (show rOper (rcond oA oB bo) xs ys = ([], 1) by unfold rOper; rw [if_neg (fun h => h1 h.1)])
    have HC1 := Lib.hid (rCheck_any Aa na ca xs w ha hna)
    have hcb : (checkL xs == 0) = false := by simp [h1]
    have hcn : (checkL xs != 0) = true := by simp [h1]
    clear h1 ha hb0
    go_enter Tryz.func47, Tryz.ntmps47
    go_wp2_with (go_at_call_of 16 (Value.slice Aa na ca); refine HC1.out.mono ?_; rintro e w1 ⟨rfl, hb1⟩)
    go_ret2
    exact RetOwn2.mk rfl HR.out (Own.lit w1 #[] 35 [] rfl Reg.vals_len hb1.size (by simp)) (hb1.alloc hb1.size _)
theorem oper_eq (cond : Bool → Bool → Bool) (oA oB bo : Bool) (h : ∀ x y, cond x y = rcond oA oB bo x y) (xs ys : List Reg) : rOper (rcond oA oB bo) xs ys = pOper cond xs ys := by
  have hc : cond = rcond oA oB bo := funext fun x => funext fun y => h x y
  subst hc
  unfold rOper pOper
  rw [pCheckL_eq, pCheckL_eq, combL_ref _ (by unfold rcond; rfl)]
  rfl
theorem rUnite_any (Aa Ab : Option Addr) (na nb ca cb : Nat) (xs ys : List Reg) (w : World) (ha : Rgs w w.heap.size Aa na xs) (hb : Rgs w w.heap.size Ab nb ys) (hna : na ≤ 1000000000) (hnb : nb ≤ 1000000000) :
    Calls Tryz.prog 21 #[.slice Aa na ca, .slice Ab nb cb] w (RetOwn2 Reg.vals 4 35 w.heap.size w (pOper (fun x y => x || y) xs ys)) := by
  have H := Lib.hid (rcombine_any true true true Aa Ab na nb ca cb xs ys w ha hb hna hnb)
  rw [oper_eq (fun x y => x || y) true true true (by decide)] at H
  clear ha hb
  generalize pOper (fun x y => x || y) xs ys = r at *
  go_enter Tryz.func21, Tryz.ntmps21
  go_wp2_with (go_at_call 47; refine H.out.mono ?_; rintro e w1 ⟨A1, c1, rfl, ho1, hb1⟩)
  go_ret2
  exact RetOwn2.mk rfl rfl ho1 hb1
theorem rMinus_any (Aa Ab : Option Addr) (na nb ca cb : Nat) (xs ys : List Reg) (w : World) (ha : Rgs w w.heap.size Aa na xs) (hb : Rgs w w.heap.size Ab nb ys) (hna : na ≤ 1000000000) (hnb : nb ≤ 1000000000) :
    Calls Tryz.prog 23 #[.slice Aa na ca, .slice Ab nb cb] w (RetOwn2 Reg.vals 4 35 w.heap.size w (pOper (fun x y => x && !y) xs ys)) := by
  have H := Lib.hid (rcombine_any true false false Aa Ab na nb ca cb xs ys w ha hb hna hnb)
  rw [oper_eq (fun x y => x && !y) true false false (by decide)] at H
  clear ha hb
  generalize pOper (fun x y => x && !y) xs ys = r at *
  go_enter Tryz.func23, Tryz.ntmps23
  go_wp2_with (go_at_call 47; refine H.out.mono ?_; rintro e w1 ⟨A1, c1, rfl, ho1, hb1⟩)
  go_ret2
  exact RetOwn2.mk rfl rfl ho1 hb1
theorem rCommon_any (Aa Ab : Option Addr) (na nb ca cb : Nat) (xs ys : List Reg) (w : World) (ha : Rgs w w.heap.size Aa na xs) (hb : Rgs w w.heap.size Ab nb ys) (hna : na ≤ 1000000000) (hnb : nb ≤ 1000000000) :
    Calls Tryz.prog 25 #[.slice Aa na ca, .slice Ab nb cb] w (RetOwn2 Reg.vals 4 35 w.heap.size w (pOper (fun x y => x && y) xs ys)) := by
  have H := Lib.hid (rcombine_any false false true Aa Ab na nb ca cb xs ys w ha hb hna hnb)
  rw [oper_eq (fun x y => x && y) false false true (by decide)] at H
  clear ha hb
  generalize pOper (fun x y => x && y) xs ys = r at *
  go_enter Tryz.func25, Tryz.ntmps25
  go_wp2_with (go_at_call 47; refine H.out.mono ?_; rintro e w1 ⟨A1, c1, rfl, ho1, hb1⟩)
  go_ret2
  exact RetOwn2.mk rfl rfl ho1 hb1
end Go.Proofs.YtiefdlfninhbgaaGreatDoor
