/- What the statements' normal gives: valid lists. -/
import Derived.Test.YtiefdlfninhbgaaGreatDoorLN
import Derived.Test.YtiefdlfninhbgaaGreatDoorT5
namespace Go.Proofs.YtiefdlfninhbgaaGreatDoor
open Go.RowKit Go.Shelf

theorem pNormL_valid {xs : List Reg} (h : (pNormL xs).2 = 0) : ∀ r ∈ xs, checkOne r = 0 := by
  unfold pNormL at h
  split at h
  · simp at h
  · split at h
    · simp at h
    · rename_i hv
      intro r hr
      rw [Bool.not_eq_true, List.any_eq_false] at hv
      have := hv r hr
      simpa using this
theorem okN_ok {xs : List Reg} (h : okN xs = true) : xs.length ≤ 10 ∧ (pNormL xs).2 = 0 ∧ ∀ r ∈ xs, checkOne r = 0 := by
  unfold okN at h
  simp only [Bool.and_eq_true, decide_eq_true_eq] at h
  exact ⟨h.1, h.2, pNormL_valid h.2⟩
/-- The normal form of a list out of some. -/
theorem NS.norm {L xs : List Reg} (hl : L.length ≤ 20) (hv : ∀ r ∈ L, checkOne r = 0) (h : ∀ r ∈ xs, r ∈ L) (hx : xs.length ≤ 10) : NS L (hasL xs) (pNormL xs).1 := by
  obtain ⟨o, e, hn⟩ := NS.normal hl hv h (by omega)
  rw [e]; exact hn

end Go.Proofs.YtiefdlfninhbgaaGreatDoor
