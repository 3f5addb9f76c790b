/- Plain theory: ascending lists; the program's and the reference's ways to make them agree. -/
import Derived.Test.YtiefdlfninhbgaaGreatDoorP2
import Derived.Test.YtiefdlfninhbgaaGreatDoorP5
import Derived.Test.YtiefdlfninhbgaaGreatDoorW4
namespace Go.Proofs.YtiefdlfninhbgaaGreatDoor

def Asc (l : List Int) : Prop := l.Pairwise (· < ·)
theorem Asc.unique {l l' : List Int} (h : Asc l) (h' : Asc l') (hm : ∀ x, x ∈ l ↔ x ∈ l') : l = l' := by
  induction l generalizing l' with
  | nil =>
    cases l' with
    | nil => rfl
    | cons b l' => have := (hm b).2 (by simp); simp at this
  | cons a l ih =>
    cases l' with
    | nil => have := (hm a).1 (by simp); simp at this
    | cons b l' =>
      unfold Asc at h h'
      rw [List.pairwise_cons] at h h'
      have hab : a = b := by
        have h1 := (hm a).1 (by simp)
        have h2 := (hm b).2 (by simp)
        rw [List.mem_cons] at h1 h2
        rcases h1 with h1 | h1
        · exact h1
        · rcases h2 with h2 | h2
          · exact h2.symm
          · have := h.1 b h2; have := h'.1 a h1; omega
      subst hab
      congr 1
      refine ih h.2 h'.2 (fun x => ?_)
      constructor
      · intro hx
        have h1 := (hm x).1 (by simp [hx])
        rw [List.mem_cons] at h1
        rcases h1 with rfl | h1
        · have := h.1 x hx; omega
        · exact h1
      · intro hx
        have h1 := (hm x).2 (by simp [hx])
        rw [List.mem_cons] at h1
        rcases h1 with rfl | h1
        · have := h'.1 x hx; omega
        · exact h1

theorem insertL_cons (a : Int) (l : List Int) (n : Int) : insertL (a :: l) n = if a < n then a :: insertL l n else if a = n then a :: l else n :: a :: l := by
  unfold insertL
  by_cases h : a < n
  · simp only [h, List.takeWhile_cons, decide_true, if_true, List.length_cons, List.getElem?_cons_succ, List.take_succ_cons, List.drop_succ_cons, List.cons_append]
    split <;> rfl
  · simp only [h, List.takeWhile_cons, decide_false, Bool.false_eq_true, if_false, List.length_nil, List.getElem?_cons_zero, List.take_zero, List.drop_zero, List.nil_append, Option.some.injEq]
theorem insertL_nil (n : Int) : insertL [] n = [n] := by unfold insertL; simp
theorem mem_insertL (l : List Int) (n x : Int) : x ∈ insertL l n ↔ x = n ∨ x ∈ l := by
  induction l with
  | nil => rw [insertL_nil]; simp
  | cons a l ih =>
    rw [insertL_cons]
    split
    · rw [List.mem_cons, ih, List.mem_cons]; grind
    · split
      · rw [List.mem_cons]; grind
      · rw [List.mem_cons, List.mem_cons]
theorem insertL_asc {l : List Int} (h : Asc l) (n : Int) : Asc (insertL l n) := by
  induction l with
  | nil => rw [insertL_nil]; unfold Asc; simp
  | cons a l ih =>
    unfold Asc at h ih ⊢
    rw [List.pairwise_cons] at h
    rw [insertL_cons]
    split
    · rw [List.pairwise_cons]
      refine ⟨fun x hx => ?_, ih h.2⟩
      rw [mem_insertL] at hx
      rcases hx with rfl | hx
      · assumption
      · exact h.1 x hx
    · split
      · exact List.pairwise_cons.2 h
      · rw [List.pairwise_cons]
        refine ⟨fun x hx => ?_, List.pairwise_cons.2 h⟩
        rw [List.mem_cons] at hx
        rcases hx with rfl | hx
        · omega
        · have := h.1 x hx; omega

/-- All numbers of a list, ascending, each once. -/
def insAll (xs : List Int) : List Int := xs.foldl insertL []
theorem foldl_insertL (xs o : List Int) (h : Asc o) : Asc (xs.foldl insertL o) ∧ ∀ x, x ∈ xs.foldl insertL o ↔ x ∈ o ∨ x ∈ xs := by
  induction xs generalizing o with
  | nil => exact ⟨h, fun x => by simp⟩
  | cons a xs ih =>
    rw [List.foldl_cons]
    obtain ⟨h1, h2⟩ := ih (insertL o a) (insertL_asc h a)
    refine ⟨h1, fun x => ?_⟩
    rw [h2, mem_insertL, List.mem_cons]; grind
theorem insAll_asc (xs : List Int) : Asc (insAll xs) := (foldl_insertL xs [] (by unfold Asc; simp)).1
theorem mem_insAll (xs : List Int) (x : Int) : x ∈ insAll xs ↔ x ∈ xs := by
  have := (foldl_insertL xs [] (by unfold Asc; simp)).2 x
  simpa [insAll] using this
theorem daysL_eq (xs : List Reg) : daysL xs = insAll (daysOf xs) := by
  unfold daysL insAll daysOf
  have : ∀ (l : List Reg) (o : List Int), l.foldl (fun o r => insertL (insertL o r.fr) r.to) o = (l.flatMap fun r => [r.fr, r.to]).foldl insertL o := by
    intro l
    induction l with
    | nil => intro o; rfl
    | cons a l ih => intro o; rw [List.foldl_cons, List.flatMap_cons, List.foldl_append, ih]; rfl
  exact this xs []

theorem compact_upto (d : Array Int) (hs : ∀ i j, i ≤ j → j < d.size → d[i]! ≤ d[j]!) (m : Nat) (hm : m ≤ d.size) :
    Asc (Lib.compactUpTo d m) ∧ (∀ x, x ∈ Lib.compactUpTo d m ↔ ∃ j, j < m ∧ d[j]! = x) := by
  induction m with
  | zero => exact ⟨by unfold Asc Lib.compactUpTo; simp, fun x => by unfold Lib.compactUpTo; simp⟩
  | succ m ih =>
    obtain ⟨h1, h2⟩ := ih (by omega)
    rw [Lib.compactUpTo_succ]
    by_cases hk : Lib.keeps d m = true
    · rw [if_pos hk]
      refine ⟨?_, fun x => ?_⟩
      · unfold Asc at *
        rw [List.pairwise_append]
        refine ⟨h1, by simp, fun x hx y hy => ?_⟩
        simp at hy
        subst hy
        obtain ⟨j, hj, rfl⟩ := (h2 x).1 hx
        unfold Lib.keeps at hk
        simp only [decide_eq_true_eq] at hk
        have h3 := hs j (m - 1) (by omega) (by omega)
        have h4 := hs (m - 1) m (by omega) (by omega)
        rcases hk with hk | hk
        · omega
        · omega
      · rw [List.mem_append, h2]
        simp only [List.mem_singleton]
        constructor
        · rintro (⟨j, hj, rfl⟩ | rfl)
          · exact ⟨j, by omega, rfl⟩
          · exact ⟨m, by omega, rfl⟩
        · rintro ⟨j, hj, rfl⟩
          by_cases e : j = m
          · subst e; exact .inr rfl
          · exact .inl ⟨j, by omega, rfl⟩
    · rw [if_neg hk, List.append_nil]
      refine ⟨h1, fun x => ?_⟩
      rw [h2]
      unfold Lib.keeps at hk
      simp only [decide_eq_true_eq, not_or, ne_eq, Decidable.not_not] at hk
      constructor
      · rintro ⟨j, hj, rfl⟩; exact ⟨j, by omega, rfl⟩
      · rintro ⟨j, hj, rfl⟩
        by_cases e : j = m
        · subst e; exact ⟨j - 1, by omega, hk.2.symm⟩
        · exact ⟨j, by omega, rfl⟩
theorem distL_eq (xs : List Int) : distL xs = insAll xs := by
  have hsorted : (sortL xs).Pairwise (fun a b => a ≤ b) := by
    have := List.pairwise_mergeSort (le := fun x y : Int => decide (x ≤ y)) (by intro a b c; simp; omega) (by intro a b; simp; omega) xs
    exact this.imp (by simp)
  have hget : ∀ i, i < (sortL xs).length → (sortL xs).toArray[i]! = (sortL xs)[i]! := fun i hi => by simp
  have hs : ∀ i j, i ≤ j → j < (sortL xs).toArray.size → (sortL xs).toArray[i]! ≤ (sortL xs).toArray[j]! := by
    intro i j hij hj
    have hj' : j < (sortL xs).length := by simpa using hj
    rw [hget i (by omega), hget j hj', List.getElem!_eq_getElem?_getD, List.getElem!_eq_getElem?_getD, List.getElem?_eq_getElem (by omega), List.getElem?_eq_getElem hj']
    simp only [Option.getD_some]
    rcases Nat.lt_or_ge i j with h | h
    · exact List.pairwise_iff_getElem.1 hsorted i j (by omega) hj' h
    · have : i = j := by omega
      subst this; exact Int.le_refl _
  obtain ⟨h1, h2⟩ := compact_upto (sortL xs).toArray hs (sortL xs).length (by simp)
  refine Asc.unique h1 (insAll_asc xs) (fun x => ?_)
  rw [mem_insAll]
  show x ∈ Lib.compactUpTo _ _ ↔ _
  rw [h2]
  have hp : x ∈ sortL xs ↔ x ∈ xs := (List.mergeSort_perm xs _).mem_iff
  rw [← hp, List.mem_iff_getElem]
  constructor
  · rintro ⟨j, hj, rfl⟩
    refine ⟨j, hj, ?_⟩
    rw [hget j hj, List.getElem!_eq_getElem?_getD, List.getElem?_eq_getElem hj]; rfl
  · rintro ⟨j, hj, rfl⟩
    refine ⟨j, hj, ?_⟩
    rw [hget j hj, List.getElem!_eq_getElem?_getD, List.getElem?_eq_getElem hj]; rfl
end Go.Proofs.YtiefdlfninhbgaaGreatDoor
