/- Great for lists of any length; how long results are. -/
import Derived.Test.YtiefdlfninhbgaaGreatDoorP8
namespace Go.Proofs.YtiefdlfninhbgaaGreatDoor
open Go.RowKit Go.Shelf

theorem great_big (a : Option Addr) (n c : Nat) (w : World) (hn : n ≤ maxLen) :
    Calls Tryz.prog 9 #[.slice a n c] w fun e w' => e = .returned (.bool (great n)) ∧ w = w' := by
  have hn2 : n ≤ 9223372036854775807 := hn
  clear hn
  go_enter Tryz.func9, Tryz.ntmps9
  go_wp2
  all_goals
    go_ret
    exact ⟨ret_bool (by unfold great; rw [Bool.eq_iff_iff]; simp; omega), rfl⟩
theorem great_no {n : Nat} (h : great n = false) : n ≤ 403 := by
  unfold great at h
  simp at h
  omega
theorem limL_len (l : List Reg) : (limL l).1.length ≤ 400 := by
  unfold limL
  split
  · simp
  · simp only; omega
theorem pOper_len (cond : Bool → Bool → Bool) (xs ys : List Reg) : (pOper cond xs ys).1.length ≤ 400 := by
  unfold pOper
  split
  · exact limL_len _
  · simp

end Go.Proofs.YtiefdlfninhbgaaGreatDoor
