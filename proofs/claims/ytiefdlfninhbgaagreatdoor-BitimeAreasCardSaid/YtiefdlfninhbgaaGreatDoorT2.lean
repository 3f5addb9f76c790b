/- Plain theory: runs of equal values of a function of numbers; they are unique. -/
import Derived.Test.YtiefdlfninhbgaaGreatDoorPl2
namespace Go.Proofs.YtiefdlfninhbgaaGreatDoor

section
variable {γ : Type} (z : γ) (g : Int → γ)

/-- The maximal runs of g from lo on, where p stands before lo. -/
def Rle : Int → γ → List (Int × Int × γ) → Prop
  | lo, _, [] => ∀ d, lo ≤ d → g d = z
  | lo, p, r :: l => lo ≤ r.1 ∧ r.1 < r.2.1 ∧ r.2.2 ≠ z ∧ (∀ d, lo ≤ d → d < r.1 → g d = z) ∧ (∀ d, r.1 ≤ d → d < r.2.1 → g d = r.2.2) ∧ (r.1 = lo → r.2.2 ≠ p) ∧ Rle r.2.1 r.2.2 l

variable {z g}
theorem Rle.end_ {l : List (Int × Int × γ)} {lo : Int} {p : γ} (h : Rle z g lo p l) (hp : p ≠ z) : g lo ≠ p := by
  cases l with
  | nil => intro e; exact hp (e.symm.trans (h lo (Int.le_refl _)))
  | cons r l =>
    obtain ⟨h1, h2, h3, h4, h5, h6, h7⟩ := h
    intro e
    by_cases hr : r.1 = lo
    · exact h6 hr ((h5 lo (by omega) (by omega)).symm.trans e)
    · exact hp (e.symm.trans (h4 lo (Int.le_refl _) (by omega)))
theorem Rle.unique {l l' : List (Int × Int × γ)} {lo : Int} {p : γ} (h : Rle z g lo p l) (h' : Rle z g lo p l') : l = l' := by
  induction l generalizing l' lo p with
  | nil =>
    cases l' with
    | nil => rfl
    | cons r l' =>
      obtain ⟨h1, h2, h3, h4, h5, h6, h7⟩ := h'
      exact absurd ((h5 r.1 (Int.le_refl _) h2).symm.trans (h r.1 h1)) h3
  | cons r l ih =>
    cases l' with
    | nil =>
      obtain ⟨h1, h2, h3, h4, h5, h6, h7⟩ := h
      exact absurd ((h5 r.1 (Int.le_refl _) h2).symm.trans (h' r.1 h1)) h3
    | cons s l' =>
      obtain ⟨h1, h2, h3, h4, h5, h6, h7⟩ := h
      obtain ⟨k1, k2, k3, k4, k5, k6, k7⟩ := h'
      have ea : r.1 = s.1 := by
        rcases Int.lt_trichotomy r.1 s.1 with hh | hh | hh
        · exact absurd ((h5 r.1 (Int.le_refl _) h2).symm.trans (k4 r.1 h1 hh)) h3
        · exact hh
        · exact absurd ((k5 s.1 (Int.le_refl _) k2).symm.trans (h4 s.1 k1 hh)) k3
      have ev : r.2.2 = s.2.2 := (h5 r.1 (Int.le_refl _) h2).symm.trans (k5 r.1 (by omega) (by omega))
      have eb : r.2.1 = s.2.1 := by
        rcases Int.lt_trichotomy r.2.1 s.2.1 with hh | hh | hh
        · exact absurd ((k5 r.2.1 (by omega) hh).trans ev.symm) (h7.end_ h3)
        · exact hh
        · exact absurd ((h5 s.2.1 (by omega) hh).trans ev) (k7.end_ k3)
      obtain ⟨a, b, v⟩ := r
      obtain ⟨a', b', v'⟩ := s
      simp only at ea eb ev
      subst ea; subst eb; subst ev
      rw [ih h7 k7]
theorem Rle.back {t : List (Int × Int × γ)} {lo hi : Int} {p p' : γ} (h : Rle z g hi p t) (hl : lo ≤ hi) (hz : ∀ d, lo ≤ d → d < hi → g d = z) (hp : lo = hi → p' = p) : Rle z g lo p' t := by
  cases t with
  | nil =>
    intro d hd
    by_cases h1 : d < hi
    · exact hz d hd h1
    · exact h d (by omega)
  | cons r t =>
    obtain ⟨h1, h2, h3, h4, h5, h6, h7⟩ := h
    refine ⟨by omega, h2, h3, fun d hd hd' => ?_, h5, fun e => ?_, h7⟩
    · by_cases h1 : d < hi
      · exact hz d hd h1
      · exact h4 d (by omega) hd'
    · have e2 : lo = hi := by omega
      rw [hp e2]; exact h6 (by omega)

variable (z g)
/-- The maximal runs of g from lo up to hi. -/
inductive Up (lo : Int) : List (Int × Int × γ) → Int → Prop
  | nil {hi : Int} : lo ≤ hi → (∀ d, lo ≤ d → d < hi → g d = z) → Up lo [] hi
  | snoc {l : List (Int × Int × γ)} {a b : Int} {v : γ} {hi : Int} : Up lo l a → (∀ s, l.getLast? = some s → s.2.1 = a → s.2.2 ≠ v) → v ≠ z → a < b → (∀ d, a ≤ d → d < b → g d = v) → b ≤ hi → (∀ d, b ≤ d → d < hi → g d = z) → Up lo (l ++ [(a, b, v)]) hi
variable {z g}
theorem Up.zero {lo : Int} {l : List (Int × Int × γ)} {a b : Int} (h : Up z g lo l a) (hab : a ≤ b) (hz : ∀ d, a ≤ d → d < b → g d = z) : Up z g lo l b := by
  cases h with
  | nil h1 h2 =>
    refine .nil (by omega) fun d h3 h4 => ?_
    by_cases hd : d < a
    · exact h2 d h3 hd
    · exact hz d (by omega) h4
  | snoc h1 h2 h3 h4 h5 h6 h7 =>
    refine .snoc h1 h2 h3 h4 h5 (by omega) fun d k3 k4 => ?_
    by_cases hd : d < a
    · exact h7 d k3 hd
    · exact hz d (by omega) k4
theorem Up.inv {lo : Int} {l : List (Int × Int × γ)} {a b : Int} {v : γ} {hi : Int} (h : Up z g lo (l ++ [(a, b, v)]) hi) :
    Up z g lo l a ∧ (∀ s, l.getLast? = some s → s.2.1 = a → s.2.2 ≠ v) ∧ v ≠ z ∧ a < b ∧ (∀ d, a ≤ d → d < b → g d = v) ∧ b ≤ hi ∧ (∀ d, b ≤ d → d < hi → g d = z) := by
  generalize hL : l ++ [(a, b, v)] = L at h
  cases h with
  | nil => simp at hL
  | snoc h1 h2 h3 h4 h5 h6 h7 =>
    obtain ⟨e1, e2⟩ := List.append_inj' hL rfl
    simp only [List.cons.injEq, Prod.mk.injEq, and_true] at e2
    obtain ⟨e3, e4, e5⟩ := e2
    subst e1; subst e3; subst e4; subst e5
    exact ⟨h1, h2, h3, h4, h5, h6, h7⟩
theorem Up.new {lo : Int} {l : List (Int × Int × γ)} {a b : Int} {v : γ} (h : Up z g lo l a) (hl : ∀ s, l.getLast? = some s → s.2.1 = a → s.2.2 ≠ v) (hv : v ≠ z) (hab : a < b) (hc : ∀ d, a ≤ d → d < b → g d = v) : Up z g lo (l ++ [(a, b, v)]) b :=
  .snoc h hl hv hab hc (Int.le_refl _) (fun d h1 h2 => by omega)
theorem Up.join {lo : Int} {l : List (Int × Int × γ)} {a' a b : Int} {v : γ} (h : Up z g lo (l ++ [(a', a, v)]) a) (hab : a < b) (hc : ∀ d, a ≤ d → d < b → g d = v) : Up z g lo (l ++ [(a', b, v)]) b := by
  obtain ⟨h1, h2, h3, h4, h5, _, _⟩ := h.inv
  refine .snoc h1 h2 h3 (by omega) (fun d k1 k2 => ?_) (Int.le_refl _) (fun d k1 k2 => by omega)
  by_cases hd : d < a
  · exact h5 d k1 hd
  · exact hc d (by omega) k2
def lastP (z : γ) (l : List (Int × Int × γ)) (hi : Int) : γ := match l.getLast? with | some s => if s.2.1 = hi then s.2.2 else z | none => z
theorem Up.cont {lo : Int} {l : List (Int × Int × γ)} {hi : Int} (h : Up z g lo l hi) (t : List (Int × Int × γ)) (ht : Rle z g hi (lastP z l hi) t) : Rle z g lo z (l ++ t) := by
  induction h generalizing t with
  | nil h1 h2 => exact ht.back h1 h2 (fun _ => rfl)
  | @snoc l a b v hi h1 h2 h3 h4 h5 h6 h7 ih =>
    rw [List.append_assoc]
    refine ih _ ⟨Int.le_refl _, h4, h3, fun d k1 k2 => by simp only at k2; omega, h5, fun _ => ?_, ?_⟩
    · unfold lastP
      cases hg : l.getLast? with
      | none => exact h3
      | some s =>
        simp only
        split
        · rename_i hs; exact fun e => h2 s hg hs e.symm
        · exact h3
    · refine ht.back h6 h7 (fun e => ?_)
      unfold lastP
      simp only [List.getLast?_append, List.getLast?_singleton, Option.some_or]
      rw [if_pos e]
theorem Up.rle {lo : Int} {l : List (Int × Int × γ)} {hi : Int} (h : Up z g lo l hi) (hz : ∀ d, hi ≤ d → g d = z) : Rle z g lo z l := by
  have := h.cont [] hz
  rwa [List.append_nil] at this

variable (z g)
/-- g changes at the numbers of l only, and is z outside of them. -/
def Grid (l : List Int) : Prop := (∀ p ∈ pairs l, p.1 < p.2 ∧ ∀ d, p.1 ≤ d → d < p.2 → g d = g p.1) ∧ ∀ d, ((∀ x ∈ l, d < x) ∨ (∀ x ∈ l, x ≤ d)) → g d = z
variable {z g}
theorem pairs_cons (a b : Int) (l : List Int) : pairs (a :: b :: l) = (a, b) :: pairs (b :: l) := rfl
theorem Grid.of {l : List Int} (ha : l.Pairwise (· < ·)) (hg : ∀ d d', (∀ x ∈ l, x ≤ d ↔ x ≤ d') → g d = g d') (hz : ∀ d, ((∀ x ∈ l, d < x) ∨ (∀ x ∈ l, x ≤ d)) → g d = z) : Grid z g l := by
  refine ⟨fun p hp => ?_, hz⟩
  have key : ∀ (m : List Int), m.Pairwise (· < ·) → ∀ p ∈ pairs m, p.1 < p.2 ∧ ∀ x ∈ m, x ≤ p.1 ∨ p.2 ≤ x := by
    intro m
    induction m with
    | nil => intro _ p hp; simp [pairs] at hp
    | cons a m ih =>
      intro hm p hp
      rw [List.pairwise_cons] at hm
      cases m with
      | nil => simp [pairs] at hp
      | cons b m =>
        rw [pairs_cons, List.mem_cons] at hp
        have hab := hm.1 b (by simp)
        rcases hp with rfl | hp
        · refine ⟨hab, fun x hx => ?_⟩
          rw [List.mem_cons] at hx
          rcases hx with rfl | hx
          · exact .inl (Int.le_refl _)
          · rw [List.mem_cons] at hx
            rcases hx with rfl | hx
            · exact .inr (Int.le_refl _)
            · have := (List.pairwise_cons.1 hm.2).1 x hx; exact .inr (by simp only; omega)
        · obtain ⟨h1, h2⟩ := ih hm.2 p hp
          refine ⟨h1, fun x hx => ?_⟩
          rw [List.mem_cons] at hx
          rcases hx with rfl | hx
          · have : p.1 ∈ b :: m := by
              unfold pairs at hp
              exact (List.of_mem_zip hp).1
            have := hm.1 _ this
            exact .inl (by omega)
          · exact h2 x hx
  obtain ⟨h1, h2⟩ := key l ha p hp
  refine ⟨h1, fun d hd hd' => hg d p.1 fun x hx => ?_⟩
  rcases h2 x hx with h | h <;> omega
end

def toRun (s : Span) : Int × Int × Bool := (s.1, s.2, true)
theorem toRun_inj {l l' : List Span} (h : l.map toRun = l'.map toRun) : l = l' := by
  refine List.map_inj_right (f := toRun) (fun a b e => ?_) |>.1 h
  unfold toRun at e
  simp only [Prod.mk.injEq, and_true] at e
  exact Prod.ext e.1 e.2
theorem spanFold {f : Int → Bool} {lo : Int} (rest : List Int) : ∀ (a : Int) (o : List Span), Up false f lo (o.map toRun) a → (∀ p ∈ pairs (a :: rest), p.1 < p.2 ∧ ∀ d, p.1 ≤ d → d < p.2 → f d = f p.1) →
    ∃ hi, (a :: rest).getLast? = some hi ∧ Up false f lo (((pairs (a :: rest)).foldl (spanStep f) o).map toRun) hi := by
  induction rest with
  | nil => intro a o h _; exact ⟨a, rfl, h⟩
  | cons b rest ih =>
    intro a o h hp
    rw [pairs_cons, List.foldl_cons]
    obtain ⟨hab, hc⟩ := hp (a, b) (by rw [pairs_cons]; simp)
    simp only at hab hc
    have hstep : Up false f lo ((spanStep f o (a, b)).map toRun) b := by
      unfold spanStep
      simp only
      cases hf : f a with
      | false =>
        rw [if_neg (by simp)]
        exact h.zero (by omega) (fun d h1 h2 => by rw [hc d h1 h2, hf])
      | true =>
        rw [if_pos rfl]
        unfold addSpan
        cases hg : o.getLast? with
        | none =>
          rw [List.getLast?_eq_none_iff] at hg
          subst hg
          exact Up.new h (fun s hs => by simp at hs) (by simp) hab (fun d h1 h2 => by rw [hc d h1 h2, hf])
        | some s =>
          simp only
          have hne : o ≠ [] := by rintro rfl; simp at hg
          have ho : o = o.dropLast ++ [s] := by
            have := List.dropLast_concat_getLast hne
            rw [List.getLast?_eq_some_getLast hne] at hg
            injection hg with hg
            rw [hg] at this
            exact this.symm
          split
          · rename_i hs
            rw [ho, List.map_append] at h
            rw [List.map_append]
            have h' : Up false f lo (o.dropLast.map toRun ++ [(s.1, a, true)]) a := by
              have e : [s].map toRun = [(s.1, a, true)] := by simp [toRun, hs]
              rwa [e] at h
            exact h'.join hab (fun d h1 h2 => by rw [hc d h1 h2, hf])
          · rename_i hs
            rw [List.map_append]
            refine Up.new h (fun t ht e => ?_) (by simp) hab (fun d h1 h2 => by rw [hc d h1 h2, hf])
            rw [List.getLast?_map, hg] at ht
            simp only [Option.map_some, Option.some.injEq] at ht
            subst ht
            exact absurd e hs
    obtain ⟨hi, e, hu⟩ := ih b _ hstep (fun p hp' => hp p (by rw [pairs_cons]; simp [hp']))
    exact ⟨hi, by rw [List.getLast?_cons_cons]; exact e, hu⟩
/-- The spans of a property are its maximal runs. -/
theorem spansL_rle {l : List Int} {f : Int → Bool} {lo : Int} (hg : Grid false f l) (hlo : ∀ x ∈ l, lo ≤ x) : Rle false f lo false ((spansL l f).map toRun) := by
  cases l with
  | nil => exact fun d _ => hg.2 d (.inl (fun x hx => by simp at hx))
  | cons a rest =>
    have ha := hlo a (by simp)
    have hasc : ∀ x ∈ rest, a < x := by
      have : ∀ (m : List Int) (a : Int), (∀ p ∈ pairs (a :: m), p.1 < p.2) → ∀ x ∈ m, a < x := by
        intro m
        induction m with
        | nil => intro a _ x hx; simp at hx
        | cons b m ih =>
          intro a hp x hx
          have h1 := hp (a, b) (by rw [pairs_cons]; simp)
          simp only at h1
          rw [List.mem_cons] at hx
          rcases hx with rfl | hx
          · exact h1
          · have := ih b (fun p hp' => hp p (by rw [pairs_cons]; simp [hp'])) x hx
            omega
      exact this rest a (fun p hp => (hg.1 p hp).1)
    have hbefore : ∀ d, d < a → f d = false := fun d hd => hg.2 d (.inl (fun x hx => by
      rw [List.mem_cons] at hx
      rcases hx with rfl | hx
      · exact hd
      · have := hasc x hx; omega))
    obtain ⟨hi, e, hu⟩ := spanFold (lo := lo) rest a [] (.nil ha (fun d _ h => hbefore d h)) hg.1
    refine Up.rle hu (fun d hd => hg.2 d (.inr (fun x hx => ?_)))
    have hlast : ∀ (m : List Int) (a h : Int), (∀ p ∈ pairs (a :: m), p.1 < p.2) → (a :: m).getLast? = some h → ∀ x ∈ a :: m, x ≤ h := by
      intro m
      induction m with
      | nil => intro a h _ hh x hx; simp at hh hx; omega
      | cons b m ih =>
        intro a h hp hh x hx
        rw [List.getLast?_cons_cons] at hh
        have h1 := hp (a, b) (by rw [pairs_cons]; simp)
        simp only at h1
        have h2 := ih b h (fun p hp' => hp p (by rw [pairs_cons]; simp [hp'])) hh
        rw [List.mem_cons] at hx
        rcases hx with rfl | hx
        · have := h2 b (by simp); omega
        · exact h2 x hx
    have := hlast rest a hi (fun p hp => (hg.1 p hp).1) e x hx
    omega
theorem spansL_unique {l l' : List Int} {f : Int → Bool} (hg : Grid false f l) (hg' : Grid false f l') : spansL l f = spansL l' f := by
  obtain ⟨lo, h1⟩ : ∃ lo : Int, ∀ x ∈ l ++ l', lo ≤ x := by
    have : ∀ m : List Int, ∃ lo : Int, ∀ x ∈ m, lo ≤ x := by
      intro m
      induction m with
      | nil => exact ⟨0, fun x hx => by simp at hx⟩
      | cons a m ih =>
        obtain ⟨lo, h⟩ := ih
        refine ⟨min a lo, fun x hx => ?_⟩
        rw [List.mem_cons] at hx
        rcases hx with rfl | hx
        · omega
        · have := h x hx; omega
    exact this _
  exact toRun_inj (Rle.unique (spansL_rle hg (lo := lo) (fun x hx => h1 x (by simp [hx]))) (spansL_rle hg' (fun x hx => h1 x (by simp [hx]))))
end Go.Proofs.YtiefdlfninhbgaaGreatDoor
