/- Plain theory for BitimeAreas: the area of a normal form is its number of pairs. -/
import Derived.Test.YtiefdlfninhbgaaGreatDoorT5
namespace Go.Proofs.YtiefdlfninhbgaaGreatDoor

/-- A sum over k numbers from a on. -/
def sumN (g : Int → Int) (a : Int) : Nat → Int
  | 0 => 0
  | k + 1 => sumN g a k + g (a + k)
theorem sumN_add (g h : Int → Int) (a : Int) (k : Nat) : sumN (fun x => g x + h x) a k = sumN g a k + sumN h a k := by
  induction k with
  | zero => rfl
  | succ k ih => simp only [sumN]; rw [ih]; omega
theorem sumN_congr {g h : Int → Int} {a : Int} {k : Nat} (e : ∀ x, g x = h x) : sumN g a k = sumN h a k := by
  rw [show g = h from funext e]
theorem sumN_zero (a : Int) (k : Nat) : sumN (fun _ => 0) a k = 0 := by
  induction k with
  | zero => rfl
  | succ k ih => simp only [sumN]; omega
/-- A value over a range, 0 beside it. -/
theorem sumN_range (v : Int) (x y a : Int) (k : Nat) (h1 : a ≤ x) (h2 : x ≤ y) : sumN (fun d => if x ≤ d ∧ d < y then v else 0) a k = v * (min (max (a + k) x) y - x) := by
  induction k with
  | zero => simp only [sumN]; rw [show min (max (a + (0 : Nat)) x) y - x = 0 by omega, Int.mul_zero]
  | succ k ih =>
    simp only [sumN]
    rw [ih]
    by_cases h : x ≤ a + k ∧ a + k < y
    · rw [if_pos h, show min (max (a + ((k + 1 : Nat) : Int)) x) y - x = (min (max (a + (k : Int)) x) y - x) + 1 by omega, Int.mul_add, Int.mul_one]
    · rw [if_neg h, show min (max (a + ((k + 1 : Nat) : Int)) x) y - x = (min (max (a + (k : Int)) x) y - x) by omega, Int.add_zero]
/-- How many pairs of the whole range belong to a set. -/
def cnt (f : Int → Int → Bool) : Int := sumN (fun d => sumN (fun n => if f d n then 1 else 0) 0 1001) (-25567) 109573
theorem cnt_add {f g h : Int → Int → Bool} (e : ∀ d n, ((if f d n then 1 else 0 : Int)) = (if g d n then 1 else 0) + (if h d n then 1 else 0)) : cnt f = cnt g + cnt h := by
  unfold cnt
  rw [← sumN_add]
  refine sumN_congr fun d => ?_
  rw [← sumN_add]
  exact sumN_congr fun n => e d n
theorem cnt_reg {r : Reg} (h : checkOne r = 0) : cnt (fun d n => inR d n r) = regArea r := by
  obtain ⟨h1, h2, h3, h4, h5, h6⟩ := checkOne_ok h
  unfold cnt
  have e : ∀ d, sumN (fun n => if inR d n r = true then (1 : Int) else 0) 0 1001 = if r.fr ≤ d ∧ d < r.to then r.un - r.si else 0 := by
    intro d
    by_cases hd : r.fr ≤ d ∧ d < r.to
    · rw [if_pos hd, sumN_congr (h := fun n => if r.si ≤ n ∧ n < r.un then (1 : Int) else 0), sumN_range 1 r.si r.un 0 1001 h4 (by omega)]
      · rw [Int.one_mul]; omega
      · intro n
        have : (inR d n r = true) ↔ (r.si ≤ n ∧ n < r.un) := by
          unfold inR; simp only [Bool.and_eq_true, decide_eq_true_eq]; omega
        by_cases hh : r.si ≤ n ∧ n < r.un
        · rw [if_pos hh, if_pos (this.2 hh)]
        · rw [if_neg hh, if_neg (fun x => hh (this.1 x))]
    · rw [if_neg hd, sumN_congr (h := fun _ => 0), sumN_zero]
      intro n
      rw [if_neg]
      unfold inR; simp only [Bool.and_eq_true, decide_eq_true_eq]; omega
  rw [sumN_congr e, sumN_range _ r.fr r.to _ _ h1 (by omega)]
  unfold regArea
  rw [show min (max (-25567 + ((109573 : Nat) : Int)) r.fr) r.to - r.fr = r.to - r.fr by omega, Int.mul_comm]
theorem cnt_list : ∀ {o : List Reg}, (∀ r ∈ o, checkOne r = 0) → o.Pairwise Apart → (∀ r ∈ o, r.fr < r.to) → cnt (hasL o) = areaL o := by
  intro o
  induction o with
  | nil =>
    intro _ _ _
    unfold cnt areaL
    rw [sumN_congr (h := fun _ => 0), sumN_zero]
    · rfl
    · intro d; rw [sumN_congr (h := fun _ => 0), sumN_zero]; intro n; rfl
  | cons r o ih =>
    intro hv hp hl
    rw [List.pairwise_cons] at hp
    have h1 := ih (fun s hs => hv s (by simp [hs])) hp.2 (fun s hs => hl s (by simp [hs]))
    have h2 := cnt_reg (hv r (by simp))
    have h3 : cnt (hasL (r :: o)) = cnt (fun d n => inR d n r) + cnt (hasL o) := by
      refine cnt_add fun d n => ?_
      have e : hasL (r :: o) d n = (inR d n r || hasL o d n) := by unfold hasL; rw [List.any_cons]
      rw [e]
      by_cases hr : inR d n r = true
      · have hno : hasL o d n = false := by
          unfold hasL
          rw [List.any_eq_false]
          intro s hs hin
          have := hp.1 s hs
          unfold Apart at this
          unfold inR at hr hin
          simp only [Bool.and_eq_true, decide_eq_true_eq] at hr hin
          omega
        rw [hr, hno]; rfl
      · rw [Bool.not_eq_true] at hr
        rw [hr]; simp
    rw [h3, h1, h2]
    unfold areaL
    rw [List.map_cons, List.sum_cons]
theorem NS.area {L : List Reg} {f : Int → Int → Bool} {o : List Reg} (hv : ∀ r ∈ L, checkOne r = 0) (h : NS L f o) : areaL o = cnt f := by
  have hval := h.1.valid h.2 hv
  rw [← cnt_list hval h.1.apart (fun r hr => (checkOne_ok (hval r hr)).2.1)]
  rw [show hasL o = f from funext fun d => funext fun n => h.1.has d n]
theorem cnt_union (f g : Int → Int → Bool) : cnt f + cnt g = cnt (fun d n => f d n || g d n) + cnt (fun d n => f d n && g d n) := by
  have h1 : cnt (fun d n => f d n || g d n) = cnt f + cnt (fun d n => !f d n && g d n) := cnt_add fun d n => by cases f d n <;> cases g d n <;> rfl
  have h2 : cnt g = cnt (fun d n => f d n && g d n) + cnt (fun d n => !f d n && g d n) := cnt_add fun d n => by cases f d n <;> cases g d n <;> rfl
  omega
theorem cnt_minus (f g : Int → Int → Bool) : cnt f = cnt (fun d n => f d n && g d n) + cnt (fun d n => f d n && !g d n) := cnt_add fun d n => by cases f d n <;> cases g d n <;> rfl
end Go.Proofs.YtiefdlfninhbgaaGreatDoor
