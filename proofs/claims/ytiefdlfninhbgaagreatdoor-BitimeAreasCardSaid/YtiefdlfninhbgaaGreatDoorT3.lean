/- Plain theory: the program's combine and the reference's agree. -/
import Derived.Test.YtiefdlfninhbgaaGreatDoorP8
import Derived.Test.YtiefdlfninhbgaaGreatDoorT1
import Derived.Test.YtiefdlfninhbgaaGreatDoorT2
import Derived.Test.YtiefdlfninhbgaaGreatDoorW8
namespace Go.Proofs.YtiefdlfninhbgaaGreatDoor

theorem runsL_snoc (bs : List Band) (b : Band) : runsL (bs ++ [b]) = addRun (runsL bs) b := by unfold runsL; rw [List.foldl_append]; rfl
theorem bandRegs_to (s : Band) (t : Int) : (bandRegs s).map (setTo t) = bandRegs (⟨s.fr, t, s.sp⟩ : Band) := by unfold bandRegs setTo; rw [List.map_map]; rfl
def bandOf (now : Int → List Span) (p : Int × Int) : Band := ⟨p.1, p.2, now p.1⟩
theorem addRun_ne (o : List Band) (b : Band) : addRun o b ≠ [] := by
  unfold addRun
  cases o.getLast? with
  | none => simp
  | some s => simp only; split <;> simp
theorem comb_runs (now : Int → List Span) (ps : List (Int × Int)) : ∀ (o : List Band) (st : CSt),
    (o = [] ∧ st = ⟨[], [], 0, 0⟩ ∨ ∃ o' s, o = o' ++ [s] ∧ st = ⟨o.flatMap bandRegs, s.sp, (o'.flatMap bandRegs).length, s.to⟩) →
    (ps.foldl (combStep now) st).out = ((ps.map (bandOf now)).foldl addRun o).flatMap bandRegs := by
  induction ps with
  | nil =>
    intro o st h
    rcases h with ⟨rfl, rfl⟩ | ⟨o', s, rfl, rfl⟩ <;> rfl
  | cons p ps ih =>
    intro o st h
    rw [List.foldl_cons, List.map_cons, List.foldl_cons]
    apply ih
    right
    rcases h with ⟨rfl, rfl⟩ | ⟨o', s, rfl, rfl⟩
    · refine ⟨[], bandOf now p, rfl, ?_⟩
      unfold combStep
      simp only
      split
      · rename_i hc
        unfold bandOf addRun
        simp [hc.2, bandRegs]
      · unfold bandOf addRun
        simp [bandRegs]
    · unfold combStep
      simp only
      by_cases hc : s.to = p.1 ∧ s.sp = now p.1
      · refine ⟨o', (⟨s.fr, p.2, s.sp⟩ : Band), ?_, ?_⟩
        · unfold addRun bandOf
          simp [hc.1, hc.2]
        · rw [if_pos ⟨hc.1, hc.2.symm⟩]
          have e : addRun (o' ++ [s]) (bandOf now p) = o' ++ [(⟨s.fr, p.2, s.sp⟩ : Band)] := by
            unfold addRun bandOf
            simp [hc.1, hc.2]
          rw [e]
          simp only [List.flatMap_append, List.flatMap_singleton, List.take_left, List.drop_left, bandRegs_to]
      · rw [if_neg (fun h => hc ⟨h.1, h.2.symm⟩)]
        have e : addRun (o' ++ [s]) (bandOf now p) = o' ++ [s] ++ [bandOf now p] := by
          unfold addRun
          simp only [List.getLast?_append, List.getLast?_singleton, Option.some_or]
          rw [if_neg]
          unfold bandOf
          exact hc
        refine ⟨o' ++ [s], bandOf now p, e, ?_⟩
        rw [e, List.flatMap_append]
        simp [bandOf, bandRegs]
theorem comb_join (now : Int → List Span) (l : List Int) : (combSt now (pairs l)).out = joinL (bandsL l now) := by
  unfold combSt joinL runsL bandsL
  exact comb_runs now (pairs l) [] _ (.inl ⟨rfl, rfl⟩)

theorem mem_numsOf {xs : List Reg} {r : Reg} (h : r ∈ xs) : r.si ∈ numsOf xs ∧ r.un ∈ numsOf xs := by
  unfold numsOf
  exact ⟨List.mem_flatMap.2 ⟨r, h, by simp⟩, List.mem_flatMap.2 ⟨r, h, by simp⟩⟩
theorem any_congr_mem {α : Type} {p q : α → Bool} {xs : List α} (h : ∀ x ∈ xs, p x = q x) : xs.any p = xs.any q := by
  induction xs with
  | nil => rfl
  | cons a xs ih => rw [List.any_cons, List.any_cons, h a (by simp), ih (fun x hx => h x (by simp [hx]))]
/-- Membership changes at the ends of the active regions only. -/
theorem has_grid (xs zs : List Reg) (d n n' : Int) (hz : ∀ r ∈ xs, act d r = true → r ∈ zs) (h : ∀ x ∈ numsOf zs, x ≤ n ↔ x ≤ n') : hasL xs d n = hasL xs d n' := by
  unfold hasL
  refine any_congr_mem fun r hr => ?_
  cases ha : act d r with
  | false =>
    unfold act at ha
    have : ∀ k, inR d k r = false := fun k => by
      unfold inR
      cases h1 : decide (r.fr ≤ d) <;> cases h2 : decide (d < r.to) <;> simp_all
    rw [this, this]
  | true =>
    obtain ⟨h1, h2⟩ := mem_numsOf (hz r hr ha)
    have e1 := h _ h1
    have e2 := h _ h2
    unfold inR
    rw [Bool.eq_iff_iff]
    simp only [Bool.and_eq_true, decide_eq_true_eq]
    omega
theorem has_out (xs zs : List Reg) (d n : Int) (hz : ∀ r ∈ xs, act d r = true → r ∈ zs) (h : (∀ x ∈ numsOf zs, n < x) ∨ (∀ x ∈ numsOf zs, x ≤ n)) : hasL xs d n = false := by
  unfold hasL
  rw [List.any_eq_false]
  intro r hr hin
  have ha : act d r = true := by
    unfold inR at hin
    unfold act
    simp only [Bool.and_eq_true, decide_eq_true_eq] at hin ⊢
    exact ⟨hin.1.1.1, hin.1.1.2⟩
  obtain ⟨h1, h2⟩ := mem_numsOf (hz r hr ha)
  unfold inR at hin
  simp only [Bool.and_eq_true, decide_eq_true_eq] at hin
  rcases h with h | h
  · have := h _ h1; omega
  · have := h _ h2; omega
theorem cond_grid (cond : Bool → Bool → Bool) (hc : cond false false = false) (xs ys zs : List Reg) (d : Int) (hz : ∀ r ∈ xs ++ ys, act d r = true → r ∈ zs) :
    Grid false (fun n => cond (hasL xs d n) (hasL ys d n)) (insAll (numsOf zs)) := by
  have hx : ∀ r ∈ xs, act d r = true → r ∈ zs := fun r hr => hz r (by simp [hr])
  have hy : ∀ r ∈ ys, act d r = true → r ∈ zs := fun r hr => hz r (by simp [hr])
  refine Grid.of (insAll_asc _) (fun n n' h => ?_) (fun n h => ?_)
  · have h' : ∀ x ∈ numsOf zs, x ≤ n ↔ x ≤ n' := fun x hx => h x ((mem_insAll _ _).2 hx)
    rw [has_grid xs zs d n n' hx h', has_grid ys zs d n n' hy h']
  · have h' : (∀ x ∈ numsOf zs, n < x) ∨ (∀ x ∈ numsOf zs, x ≤ n) := h.imp (fun h x hx => h x ((mem_insAll _ _).2 hx)) (fun h x hx => h x ((mem_insAll _ _).2 hx))
    rw [has_out xs zs d n hx h', has_out ys zs d n hy h']
    exact hc
theorem endsL_eq (xs : List Reg) (d : Int) : endsL xs d = insAll (numsOf (xs.filter (act d))) := by
  unfold endsL insAll numsOf
  have : ∀ (l : List Reg) (o : List Int), l.foldl (endsStep d) o = ((l.filter (act d)).flatMap fun r => [r.si, r.un]).foldl insertL o := by
    intro l
    induction l with
    | nil => intro o; rfl
    | cons a l ih =>
      intro o
      rw [List.foldl_cons, ih]
      unfold endsStep
      cases h : act d a with
      | true => rw [if_pos rfl, List.filter_cons_of_pos h, List.flatMap_cons, List.foldl_append]; rfl
      | false => rw [if_neg (by simp), List.filter_cons_of_neg (by simp [h])]
  exact this xs []
/-- The spans of the reference are those of the program. -/
theorem now_ref (cond : Bool → Bool → Bool) (hc : cond false false = false) (xs ys : List Reg) (d : Int) :
    nowL cond xs ys (distL (numsOf (xs ++ ys))) d = spansL (endsL (xs ++ ys) d) fun k => cond (hasL xs d k) (hasL ys d k) := by
  unfold nowL
  rw [distL_eq, endsL_eq]
  exact spansL_unique (cond_grid cond hc xs ys _ d (fun r hr _ => hr)) (cond_grid cond hc xs ys _ d (fun r hr ha => List.mem_filter.2 ⟨hr, ha⟩))
def refL (cond : Bool → Bool → Bool) (xs ys : List Reg) : List Reg := joinL (bandsL (daysL (xs ++ ys)) fun d => spansL (endsL (xs ++ ys) d) fun k => cond (hasL xs d k) (hasL ys d k))
theorem combL_ref (cond : Bool → Bool → Bool) (hc : cond false false = false) (xs ys : List Reg) : combL cond xs ys = refL cond xs ys := by
  unfold combL refL
  rw [comb_join, distL_eq (daysOf _), daysL_eq]
  congr 2
  funext d
  exact now_ref cond hc xs ys d
theorem pNormal_form (xs : List Reg) : pNormal xs = formL xs := by
  unfold pNormal
  rw [combL_ref _ rfl]
  unfold refL formL
  rw [List.append_nil]
  rfl
theorem pCheckL_eq (xs : List Reg) : pCheckL xs = checkL xs := by unfold pCheckL checkL; rw [pNormal_form]; rfl
theorem pNormL_eq (xs : List Reg) : pNormL xs = normL xs := by unfold pNormL normL; rw [pNormal_form]
end Go.Proofs.YtiefdlfninhbgaaGreatDoor
