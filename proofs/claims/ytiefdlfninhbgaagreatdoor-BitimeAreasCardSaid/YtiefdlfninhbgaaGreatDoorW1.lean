/- Contracts of the small functions of bitime and of its reference. -/
import Derived.Test.YtiefdlfninhbgaaGreatDoorReg
namespace Go.Proofs.YtiefdlfninhbgaaGreatDoor
open Go.RowKit

def inR (d k : Int) (r : Reg) : Bool := r.fr ≤ d && d < r.to && r.si ≤ k && k < r.un
def hasL (xs : List Reg) (d k : Int) : Bool := xs.any (inR d k)
theorem hasL_of {xs : List Reg} {j : Nat} {r : Reg} {d k : Int} (h : xs[j]? = some r) (hr : inR d k r = true) : hasL xs d k = true := by
  unfold hasL; rw [List.any_eq_true]; exact ⟨r, List.mem_of_getElem? h, hr⟩
theorem hasL_step {xs : List Reg} {j : Nat} {r : Reg} {d k : Int} (h : xs[j]? = some r) (hn : hasL (xs.take j) d k = false) (hr : inR d k r = false) : hasL (xs.take (j + 1)) d k = false := by
  obtain ⟨hj, rfl⟩ := List.getElem?_eq_some_iff.1 h
  unfold hasL at *; rw [List.take_succ_eq_append_getElem hj, List.any_append, hn]; simp [hr]
theorem take_all {α : Type} {xs : List α} {j n : Nat} (h : n = xs.length) (hj : n ≤ j) : xs.take j = xs := List.take_of_length_le (by omega)

def badDay (r : Reg) : Bool := r.fr < -25567 || r.fr ≥ r.to || r.to > 84006
def badNum (r : Reg) : Bool := r.si < 0 || r.si ≥ r.un || r.un > 1001
def checkOne (r : Reg) : Int := if badDay r then 13 else if badNum r then 2 else 0

def great (n : Nat) : Bool := (decide (10 < n) && decide (n ≤ 400)) || decide (403 < n)

set_option maxHeartbeats 400000 in
theorem great_any (a : Option Addr) (n c : Nat) (w : World) (hn : n ≤ 1000000000000) :
    Calls Tryz.prog 9 #[.slice a n c] w fun e w' => e = .returned (.bool (great n)) ∧ w = w' := by
  go_enter Tryz.func9, Tryz.ntmps9
  go_wp2
  all_goals
    go_ret
    exact ⟨ret_bool (by unfold great; rw [Bool.eq_iff_iff]; simp; omega), rfl⟩

set_option maxHeartbeats 400000 in
theorem checkOne_any (r : Reg) (w : World) :
    Calls Tryz.prog 36 #[r.val] w fun e w' => e = .returned (.int .i64 (checkOne r)) ∧ Below w.heap.size w w' := by
  obtain ⟨a, b, c, d⟩ := r
  unfold Reg.val
  go_enter Tryz.func36, Tryz.ntmps36
  go_wp2
  all_goals
    go_ret
    refine ⟨ret_int ?_, (Below.refl _ _).alloc (Nat.le_refl _) _⟩
    unfold checkOne badDay badNum
    simp only [Bool.or_eq_true, decide_eq_true_eq, ge_iff_le, gt_iff_lt]
    first
      | rw [if_pos (by omega)]
      | rw [if_neg (by omega), if_pos (by omega)]
      | rw [if_neg (by omega), if_neg (by omega)]

set_option maxHeartbeats 400000 in
theorem valid_any (r : Reg) (w : World) :
    Calls Tryz.prog 39 #[r.val] w fun e w' => e = .returned (.int .i64 (checkOne r)) ∧ Below w.heap.size w w' := by
  obtain ⟨a, b, c, d⟩ := r
  unfold Reg.val
  go_enter Tryz.func39, Tryz.ntmps39
  go_wp2
  all_goals
    go_ret
    refine ⟨ret_int ?_, (Below.refl _ _).alloc (Nat.le_refl _) _⟩
    unfold checkOne badDay badNum
    simp only [Bool.or_eq_true, decide_eq_true_eq, ge_iff_le, gt_iff_lt]
    first
      | rw [if_pos (by omega)]
      | rw [if_neg (by omega), if_pos (by omega)]
      | rw [if_neg (by omega), if_neg (by omega)]

set_option maxHeartbeats 400000 in
theorem rHas_any (A : Option Addr) (n c : Nat) (xs : List Reg) (d k : Int) (w : World) (hr : Rgs w w.heap.size A n xs) (hn : n ≤ 1000000000) :
    Calls Tryz.prog 19 #[.slice A n c, .int .i64 d, .int .i64 k] w fun e w' => e = .returned (.bool (hasL xs d k)) ∧ Below w.heap.size w w' := by
  go_enter Tryz.func19, Tryz.ntmps19
  go_wp2
  go_loopw [7] (fun i wr => ∃ j : Nat, j ≤ n ∧ i = .int .i64 j ∧ hasL (xs.take j) d k = false ∧ Below w.heap.size w wr) (fun i _ => n - (intOf i).toNat)
  case atStart => exact ⟨0, Nat.zero_le _, rfl, by simp [hasL], Below.refl _ _⟩
  case round =>
    obtain ⟨j, hj, rfl, hno, hb⟩ := hrel
    by_cases hlt : j < n
    · obtain ⟨b, off, r, rfl, hbl, hxj, d0, d1, d2, d3⟩ := (hr.below hb).reg hlt
      have HX := Lib.hid hxj; clear hxj
      have HN := Lib.hid hno; clear hno
      have HR := Lib.hid hr; clear hr
      have HB := hb.alloc hb.size (.cells #[.int .i64 r.fr, .int .i64 r.to, .int .i64 r.si, .int .i64 r.un] 35)
      go_wp2
      all_goals first
        | (go_ret
           exact ⟨ret_bool (hasL_of HX.out (by unfold inR; simp; omega)).symm, HB⟩)
        | (go_roundw
           case rel => exact ⟨j + 1, by omega, by go_num, hasL_step HX.out HN.out (by unfold inR; simp; omega), HB⟩
           case measure => simp [intOf]; omega)
    · go_wp2
      go_ret
      exact ⟨ret_bool (by rw [← hno, take_all hr.1 (by omega)]), hb⟩

end Go.Proofs.YtiefdlfninhbgaaGreatDoor
