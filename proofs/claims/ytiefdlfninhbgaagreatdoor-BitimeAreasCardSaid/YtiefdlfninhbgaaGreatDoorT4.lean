/- Plain theory: normal forms: unique, their members, apart. -/
import Derived.Test.YtiefdlfninhbgaaGreatDoorT3
import Derived.Test.YtiefdlfninhbgaaGreatDoorP9
namespace Go.Proofs.YtiefdlfninhbgaaGreatDoor

section
variable {γ : Type} {z : γ} {g : Int → γ}
theorem Rle.mem {l : List (Int × Int × γ)} {lo : Int} {p : γ} (h : Rle z g lo p l) : ∀ r ∈ l, lo ≤ r.1 ∧ r.1 < r.2.1 ∧ r.2.2 ≠ z ∧ ∀ d, r.1 ≤ d → d < r.2.1 → g d = r.2.2 := by
  induction l generalizing lo p with
  | nil => intro r hr; simp at hr
  | cons a l ih =>
    obtain ⟨h1, h2, h3, h4, h5, h6, h7⟩ := h
    intro r hr
    rw [List.mem_cons] at hr
    rcases hr with rfl | hr
    · exact ⟨h1, h2, h3, h5⟩
    · obtain ⟨k1, k2⟩ := ih h7 r hr
      exact ⟨by omega, k2⟩
theorem Rle.cover {l : List (Int × Int × γ)} {lo : Int} {p : γ} (h : Rle z g lo p l) (d : Int) (hd : lo ≤ d) (hg : g d ≠ z) : ∃ r ∈ l, r.1 ≤ d ∧ d < r.2.1 := by
  induction l generalizing lo p with
  | nil => exact absurd (h d hd) hg
  | cons a l ih =>
    obtain ⟨h1, h2, h3, h4, h5, h6, h7⟩ := h
    by_cases c1 : d < a.1
    · exact absurd (h4 d hd c1) hg
    · by_cases c2 : d < a.2.1
      · exact ⟨a, by simp, by omega, c2⟩
      · obtain ⟨r, hr, k⟩ := ih h7 (by omega)
        exact ⟨r, by simp [hr], k⟩
theorem Rle.apart {l : List (Int × Int × γ)} {lo : Int} {p : γ} (h : Rle z g lo p l) : l.Pairwise (fun r s => r.2.1 ≤ s.1) := by
  induction l generalizing lo p with
  | nil => exact List.Pairwise.nil
  | cons a l ih =>
    obtain ⟨h1, h2, h3, h4, h5, h6, h7⟩ := h
    exact List.pairwise_cons.2 ⟨fun s hs => (h7.mem s hs).1, ih h7⟩
theorem Rle.change {l : List (Int × Int × γ)} {lo : Int} {p : γ} (h : Rle z g lo p l) (hp : g (lo - 1) = p) : ∀ r ∈ l, g (r.1 - 1) ≠ g r.1 := by
  induction l generalizing lo p with
  | nil => intro r hr; simp at hr
  | cons a l ih =>
    obtain ⟨h1, h2, h3, h4, h5, h6, h7⟩ := h
    intro r hr
    rw [List.mem_cons] at hr
    rcases hr with rfl | hr
    · rw [h5 r.1 (Int.le_refl _) h2]
      by_cases hl : r.1 = lo
      · rw [hl, hp]; exact fun e => h6 hl e.symm
      · rw [h4 (r.1 - 1) (by omega) (by omega)]; exact fun e => h3 e.symm
    · exact ih h7 (h5 _ (by omega) (by omega)) r hr

variable (z g)
/-- The maximal runs of g, all of them. -/
def Runs (l : List (Int × Int × γ)) : Prop := ∃ lo, (∀ d, d < lo → g d = z) ∧ Rle z g lo z l
variable {z g}
theorem Runs.unique {l l' : List (Int × Int × γ)} (h : Runs z g l) (h' : Runs z g l') : l = l' := by
  obtain ⟨lo, h1, h2⟩ := h
  obtain ⟨lo', h1', h2'⟩ := h'
  have k1 := h2.back (lo := min lo lo') (p' := z) (by omega) (fun d _ hd => h1 d hd) (fun _ => rfl)
  have k2 := h2'.back (lo := min lo lo') (p' := z) (by omega) (fun d _ hd => h1' d hd) (fun _ => rfl)
  exact k1.unique k2
theorem Runs.mem {l : List (Int × Int × γ)} (h : Runs z g l) : ∀ r ∈ l, r.1 < r.2.1 ∧ r.2.2 ≠ z ∧ ∀ d, r.1 ≤ d → d < r.2.1 → g d = r.2.2 := by
  obtain ⟨lo, h1, h2⟩ := h
  exact fun r hr => (h2.mem r hr).2
theorem Runs.cover {l : List (Int × Int × γ)} (h : Runs z g l) (d : Int) (hg : g d ≠ z) : ∃ r ∈ l, r.1 ≤ d ∧ d < r.2.1 := by
  obtain ⟨lo, h1, h2⟩ := h
  by_cases hd : d < lo
  · exact absurd (h1 d hd) hg
  · exact h2.cover d (by omega) hg
theorem Runs.apart {l : List (Int × Int × γ)} (h : Runs z g l) : l.Pairwise (fun r s => r.2.1 ≤ s.1) := by
  obtain ⟨lo, h1, h2⟩ := h
  exact h2.apart
theorem Runs.change {l : List (Int × Int × γ)} (h : Runs z g l) : ∀ r ∈ l, g (r.1 - 1) ≠ g r.1 := by
  obtain ⟨lo, h1, h2⟩ := h
  exact h2.change (h1 _ (by omega))
end

/-- The runs of bands that are not empty. -/
def triB (b : Band) : Int × Int × List Span := (b.fr, b.to, b.sp)
def fullB (b : Band) : Bool := !b.sp.isEmpty
def trisL (o : List Band) : List (Int × Int × List Span) := (o.filter fullB).map triB
def regsRun (r : Int × Int × List Span) : List Reg := bandRegs ⟨r.1, r.2.1, r.2.2⟩
theorem trisL_flat (o : List Band) : o.flatMap bandRegs = (trisL o).flatMap regsRun := by
  induction o with
  | nil => rfl
  | cons b o ih =>
    rw [List.flatMap_cons, ih]
    unfold trisL
    by_cases h : fullB b = true
    · rw [List.filter_cons_of_pos h, List.map_cons, List.flatMap_cons]; rfl
    · rw [List.filter_cons_of_neg h]
      unfold fullB at h
      simp at h
      unfold bandRegs
      rw [h]; rfl
theorem trisL_append (o o' : List Band) : trisL (o ++ o') = trisL o ++ trisL o' := by unfold trisL; rw [List.filter_append, List.map_append]
theorem trisL_one_full {b : Band} (h : b.sp ≠ []) : trisL [b] = [triB b] := by
  unfold trisL
  rw [List.filter_cons_of_pos (by unfold fullB; cases hb : b.sp with | nil => exact absurd hb h | cons _ _ => rfl)]; rfl
theorem trisL_one_empty {b : Band} (h : b.sp = []) : trisL [b] = [] := by
  unfold trisL
  rw [List.filter_cons_of_neg (by unfold fullB; rw [h]; simp)]; rfl
theorem runFold {G : Int → List Span} {lo : Int} (rest : List Int) : ∀ (a : Int) (o : List Band), Up [] G lo (trisL o) a → (∀ s, o.getLast? = some s → s.to = a ∧ s.fr < s.to ∧ ∀ d, s.fr ≤ d → d < s.to → G d = s.sp) →
    (∀ p ∈ pairs (a :: rest), p.1 < p.2 ∧ ∀ d, p.1 ≤ d → d < p.2 → G d = G p.1) →
    ∃ hi, (a :: rest).getLast? = some hi ∧ Up [] G lo (trisL (((pairs (a :: rest)).map (bandOf G)).foldl addRun o)) hi := by
  induction rest with
  | nil => intro a o h _ _; exact ⟨a, rfl, h⟩
  | cons b rest ih =>
    intro a o h hs hp
    rw [pairs_cons, List.map_cons, List.foldl_cons]
    obtain ⟨hab, hc⟩ := hp (a, b) (by rw [pairs_cons]; simp)
    simp only at hab hc
    have hstep : Up [] G lo (trisL (addRun o (bandOf G (a, b)))) b ∧ ∀ s, (addRun o (bandOf G (a, b))).getLast? = some s → s.to = b ∧ s.fr < s.to ∧ ∀ d, s.fr ≤ d → d < s.to → G d = s.sp := by
      have hnew : ∀ (hl : ∀ s, (trisL o).getLast? = some s → s.2.1 = a → s.2.2 ≠ G a), Up [] G lo (trisL (o ++ [bandOf G (a, b)])) b ∧ ∀ s, (o ++ [bandOf G (a, b)]).getLast? = some s → s.to = b ∧ s.fr < s.to ∧ ∀ d, s.fr ≤ d → d < s.to → G d = s.sp := by
        intro hl
        refine ⟨?_, fun s e => ?_⟩
        · rw [trisL_append]
          by_cases hv : G a = []
          · rw [trisL_one_empty (by unfold bandOf; exact hv), List.append_nil]
            exact h.zero (by omega) (fun d h1 h2 => by rw [hc d h1 h2, hv])
          · rw [trisL_one_full (by unfold bandOf; exact hv)]
            exact Up.new h hl hv hab hc
        · simp only [List.getLast?_append, List.getLast?_singleton, Option.some_or, Option.some.injEq] at e
          subst e
          exact ⟨rfl, hab, hc⟩
      cases hg : o.getLast? with
      | none =>
        rw [List.getLast?_eq_none_iff] at hg
        subst hg
        have := hnew (fun s e => by unfold trisL at e; simp at e)
        unfold addRun
        exact this
      | some s =>
        have hne : o ≠ [] := by rintro rfl; simp at hg
        have ho : o = o.dropLast ++ [s] := by
          have := List.dropLast_concat_getLast hne
          rw [List.getLast?_eq_some_getLast hne] at hg
          injection hg with hg
          rw [hg] at this
          exact this.symm
        obtain ⟨s1, s2, s3⟩ := hs s hg
        by_cases hj : s.sp = G a
        · have e : addRun o (bandOf G (a, b)) = o.dropLast ++ [(⟨s.fr, b, s.sp⟩ : Band)] := by
            unfold addRun
            rw [hg]
            simp only
            rw [if_pos ⟨by rw [s1]; rfl, hj⟩]; rfl
          rw [e]
          refine ⟨?_, fun t ht => ?_⟩
          · rw [ho, trisL_append] at h
            rw [trisL_append]
            by_cases hv : G a = []
            · rw [trisL_one_empty (by rw [hj, hv]), List.append_nil] at h
              rw [trisL_one_empty (by simp only; rw [hj, hv]), List.append_nil]
              exact h.zero (by omega) (fun d h1 h2 => by rw [hc d h1 h2, hv])
            · rw [trisL_one_full (by rw [hj]; exact hv)] at h
              rw [trisL_one_full (by simp only; rw [hj]; exact hv)]
              have h' : Up [] G lo (trisL o.dropLast ++ [(s.fr, a, s.sp)]) a := by
                have e2 : triB s = (s.fr, a, s.sp) := by unfold triB; rw [s1]
                rwa [e2] at h
              exact h'.join hab (fun d h1 h2 => by rw [hc d h1 h2, hj])
          · simp only [List.getLast?_append, List.getLast?_singleton, Option.some_or, Option.some.injEq] at ht
            subst ht
            refine ⟨rfl, by simp only; omega, fun d k1 k2 => ?_⟩
            simp only at k1 k2 ⊢
            by_cases hd : d < a
            · exact s3 d k1 (by omega)
            · rw [hc d (by omega) k2, hj]
        · have e : addRun o (bandOf G (a, b)) = o ++ [bandOf G (a, b)] := by
            unfold addRun
            rw [hg]
            simp only
            rw [if_neg (fun k => hj k.2)]
          rw [e]
          refine hnew (fun t ht hta => ?_)
          by_cases hv : s.sp = []
          · intro ev
            have hlast : trisL o ≠ [] := by intro e0; rw [e0] at ht; simp at ht
            have ho2 : trisL o = (trisL o).dropLast ++ [t] := by
              have := List.dropLast_concat_getLast hlast
              rw [List.getLast?_eq_some_getLast hlast] at ht
              injection ht with ht
              rw [ht] at this
              exact this.symm
            rw [ho2] at h
            obtain ⟨t1, t2, t3⟩ := t
            obtain ⟨_, _, k3, k4, k5, _, _⟩ := h.inv
            simp only at hta
            have q1 := k5 (a - 1) (by omega) (by omega)
            have q2 := s3 (a - 1) (by omega) (by omega)
            exact k3 (q1.symm.trans (q2.trans hv))
          · rw [ho, trisL_append, trisL_one_full hv] at ht
            simp only [List.getLast?_append, List.getLast?_singleton, Option.some_or, Option.some.injEq] at ht
            subst ht
            exact hj
    obtain ⟨hi, e, hu⟩ := ih b _ hstep.1 hstep.2 (fun p hp' => hp p (by rw [pairs_cons]; simp [hp']))
    exact ⟨hi, by rw [List.getLast?_cons_cons]; exact e, hu⟩

theorem pairs_asc : ∀ (m : List Int) (a : Int), (∀ p ∈ pairs (a :: m), p.1 < p.2) → ∀ x ∈ m, a < x := by
  intro m
  induction m with
  | nil => intro a _ x hx; simp at hx
  | cons b m ih =>
    intro a hp x hx
    have h1 := hp (a, b) (by rw [pairs_cons]; simp)
    simp only at h1
    rw [List.mem_cons] at hx
    rcases hx with rfl | hx
    · exact h1
    · have := ih b (fun p hp' => hp p (by rw [pairs_cons]; simp [hp'])) x hx
      omega
theorem pairs_last : ∀ (m : List Int) (a h : Int), (∀ p ∈ pairs (a :: m), p.1 < p.2) → (a :: m).getLast? = some h → ∀ x ∈ a :: m, x ≤ h := by
  intro m
  induction m with
  | nil => intro a h _ hh x hx; simp at hh hx; omega
  | cons b m ih =>
    intro a h hp hh x hx
    rw [List.getLast?_cons_cons] at hh
    have h1 := hp (a, b) (by rw [pairs_cons]; simp)
    simp only at h1
    have h2 := ih b h (fun p hp' => hp p (by rw [pairs_cons]; simp [hp'])) hh
    rw [List.mem_cons] at hx
    rcases hx with rfl | hx
    · have := h2 b (by simp); omega
    · exact h2 x hx
/-- The runs of bands are the maximal runs of what they hold. -/
theorem bands_runs {l : List Int} {G : Int → List Span} (hg : Grid [] G l) : Runs [] G (trisL (runsL (bandsL l G))) := by
  cases l with
  | nil => exact ⟨0, fun d _ => hg.2 d (.inl (fun x hx => by simp at hx)), fun d _ => hg.2 d (.inl (fun x hx => by simp at hx))⟩
  | cons a rest =>
    have hbefore : ∀ d, d < a → G d = [] := fun d hd => hg.2 d (.inl (fun x hx => by
      rw [List.mem_cons] at hx
      rcases hx with rfl | hx
      · exact hd
      · have := pairs_asc rest a (fun p hp => (hg.1 p hp).1) x hx; omega))
    obtain ⟨hi, e, hu⟩ := runFold (lo := a) rest a [] (.nil (Int.le_refl _) (fun d _ h => hbefore d h)) (fun s hs => by simp at hs) hg.1
    refine ⟨a, hbefore, ?_⟩
    exact Up.rle hu (fun d hd => hg.2 d (.inr (fun x hx => by have := pairs_last rest a hi (fun p hp => (hg.1 p hp).1) e x hx; omega)))

theorem exists_lo (m : List Int) : ∃ lo : Int, ∀ x ∈ m, lo ≤ x := by
  induction m with
  | nil => exact ⟨0, fun x hx => by simp at hx⟩
  | cons a m ih =>
    obtain ⟨lo, h⟩ := ih
    refine ⟨min a lo, fun x hx => ?_⟩
    rw [List.mem_cons] at hx
    rcases hx with rfl | hx
    · omega
    · have := h x hx; omega
theorem spansL_runs {l : List Int} {f : Int → Bool} (hg : Grid false f l) : Runs false f ((spansL l f).map toRun) := by
  obtain ⟨lo, h⟩ := exists_lo l
  refine ⟨lo, fun d hd => hg.2 d (.inl (fun x hx => by have := h x hx; omega)), spansL_rle hg h⟩

/-- The normal form of a set of pairs. -/
def Nf (f : Int → Int → Bool) (out : List Reg) : Prop :=
  ∃ (G : Int → List Span) (rs : List (Int × Int × List Span)), (∀ d, Runs false (f d) ((G d).map toRun)) ∧ Runs [] G rs ∧ out = rs.flatMap regsRun
theorem Nf.unique {f : Int → Int → Bool} {o o' : List Reg} (h : Nf f o) (h' : Nf f o') : o = o' := by
  obtain ⟨G, rs, h1, h2, rfl⟩ := h
  obtain ⟨G', rs', h1', h2', rfl⟩ := h'
  have hG : G = G' := funext fun d => toRun_inj ((h1 d).unique (h1' d))
  subst hG
  rw [h2.unique h2']
theorem mem_regsRun {r : Reg} {q : Int × Int × List Span} : r ∈ regsRun q ↔ ∃ s ∈ q.2.2, r = ⟨q.1, q.2.1, s.1, s.2⟩ := by
  unfold regsRun bandRegs
  simp only [List.mem_map]
  constructor
  · rintro ⟨s, hs, rfl⟩; exact ⟨s, hs, rfl⟩
  · rintro ⟨s, hs, rfl⟩; exact ⟨s, hs, rfl⟩
theorem Nf.reg {f : Int → Int → Bool} {o : List Reg} (h : Nf f o) : ∀ r ∈ o, r.fr < r.to ∧ r.si < r.un ∧ ∀ d n, inR d n r = true → f d n = true := by
  obtain ⟨G, rs, h1, h2, rfl⟩ := h
  intro r hr
  obtain ⟨q, hq, hr⟩ := List.mem_flatMap.1 hr
  obtain ⟨s, hs, rfl⟩ := mem_regsRun.1 hr
  obtain ⟨k1, k2, k3⟩ := h2.mem q hq
  have hspan : ∀ d, q.1 ≤ d → d < q.2.1 → s.1 < s.2 ∧ ∀ n, s.1 ≤ n → n < s.2 → f d n = true := by
    intro d hd hd'
    have hs' : toRun s ∈ (G d).map toRun := by rw [k3 d hd hd']; exact List.mem_map.2 ⟨s, hs, rfl⟩
    obtain ⟨m1, _, m3⟩ := (h1 d).mem _ hs'
    exact ⟨m1, m3⟩
  refine ⟨k1, (hspan q.1 (Int.le_refl _) k1).1, fun d n hin => ?_⟩
  unfold inR at hin
  simp only [Bool.and_eq_true, decide_eq_true_eq] at hin
  exact (hspan d hin.1.1.1 hin.1.1.2).2 n hin.1.2 hin.2
theorem Nf.has {f : Int → Int → Bool} {o : List Reg} (h : Nf f o) (d n : Int) : hasL o d n = f d n := by
  have hreg := h.reg
  rw [Bool.eq_iff_iff]
  constructor
  · intro hh
    unfold hasL at hh
    obtain ⟨r, hr, hin⟩ := List.any_eq_true.1 hh
    exact (hreg r hr).2.2 d n hin
  · intro hf
    obtain ⟨G, rs, h1, h2, rfl⟩ := h
    obtain ⟨t, ht, t1, t2⟩ := (h1 d).cover n (by rw [hf]; simp)
    obtain ⟨s, hs, rfl⟩ := List.mem_map.1 ht
    have hG : G d ≠ [] := by intro e; rw [e] at hs; simp at hs
    obtain ⟨q, hq, q1, q2⟩ := h2.cover d hG
    have e := (h2.mem q hq).2.2 d q1 q2
    unfold hasL
    rw [List.any_eq_true]
    refine ⟨⟨q.1, q.2.1, s.1, s.2⟩, List.mem_flatMap.2 ⟨q, hq, mem_regsRun.2 ⟨s, by rw [← e]; exact hs, rfl⟩⟩, ?_⟩
    unfold inR
    simp only [Bool.and_eq_true, decide_eq_true_eq]
    exact ⟨⟨⟨q1, q2⟩, t1⟩, t2⟩
/-- Two regions of a normal form have no common pair. -/
def Apart (s r : Reg) : Prop := s.to ≤ r.fr ∨ s.un ≤ r.si
theorem Nf.apart {f : Int → Int → Bool} {o : List Reg} (h : Nf f o) : o.Pairwise Apart := by
  obtain ⟨G, rs, h1, h2, rfl⟩ := h
  rw [List.pairwise_flatMap]
  constructor
  · intro q hq
    obtain ⟨k1, k2, k3⟩ := h2.mem q hq
    have hr := (h1 q.1).apart
    rw [k3 q.1 (Int.le_refl _) k1, List.pairwise_map] at hr
    unfold regsRun bandRegs
    rw [List.pairwise_map]
    exact hr.imp (fun h => .inr h)
  · refine h2.apart.imp (fun {q q'} hqq r hr r' hr' => ?_)
    obtain ⟨s, hs, rfl⟩ := mem_regsRun.1 hr
    obtain ⟨s', hs', rfl⟩ := mem_regsRun.1 hr'
    exact .inl hqq

theorem mem_daysOf {xs : List Reg} {r : Reg} (h : r ∈ xs) : r.fr ∈ daysOf xs ∧ r.to ∈ daysOf xs := by
  unfold daysOf
  exact ⟨List.mem_flatMap.2 ⟨r, h, by simp⟩, List.mem_flatMap.2 ⟨r, h, by simp⟩⟩
theorem has_day_grid (xs zs : List Reg) (hz : ∀ r ∈ xs, r ∈ zs) (d d' n : Int) (h : ∀ x ∈ daysOf zs, x ≤ d ↔ x ≤ d') : hasL xs d n = hasL xs d' n := by
  unfold hasL
  refine any_congr_mem fun r hr => ?_
  obtain ⟨h1, h2⟩ := mem_daysOf (hz r hr)
  have e1 := h _ h1
  have e2 := h _ h2
  unfold inR
  rw [Bool.eq_iff_iff]
  simp only [Bool.and_eq_true, decide_eq_true_eq]
  omega
theorem has_day_out (xs zs : List Reg) (hz : ∀ r ∈ xs, r ∈ zs) (d n : Int) (h : (∀ x ∈ daysOf zs, d < x) ∨ (∀ x ∈ daysOf zs, x ≤ d)) : hasL xs d n = false := by
  unfold hasL
  rw [List.any_eq_false]
  intro r hr hin
  obtain ⟨h1, h2⟩ := mem_daysOf (hz r hr)
  unfold inR at hin
  simp only [Bool.and_eq_true, decide_eq_true_eq] at hin
  rcases h with h | h
  · have := h _ h1; omega
  · have := h _ h2; omega
theorem spansL_never (l : List Int) : spansL l (fun _ => false) = [] := by
  unfold spansL
  have : ∀ ps : List (Int × Int), ps.foldl (spanStep fun _ => false) [] = [] := by
    intro ps
    induction ps with
    | nil => rfl
    | cons p ps ih => rw [List.foldl_cons]; exact ih
  exact this _
/-- combine gives the normal form. -/
theorem combL_nf (cond : Bool → Bool → Bool) (hc : cond false false = false) (xs ys : List Reg) : Nf (fun d n => cond (hasL xs d n) (hasL ys d n)) (combL cond xs ys) := by
  refine ⟨nowL cond xs ys (distL (numsOf (xs ++ ys))), trisL (runsL (bandsL (distL (daysOf (xs ++ ys))) (nowL cond xs ys (distL (numsOf (xs ++ ys)))))), fun d => ?_, ?_, ?_⟩
  · unfold nowL
    rw [distL_eq]
    exact spansL_runs (cond_grid cond hc xs ys _ d (fun r hr _ => hr))
  · refine bands_runs ?_
    rw [distL_eq (daysOf _)]
    refine Grid.of (insAll_asc _) (fun d d' h => ?_) (fun d h => ?_)
    · have h' : ∀ x ∈ daysOf (xs ++ ys), x ≤ d ↔ x ≤ d' := fun x hx => h x ((mem_insAll _ _).2 hx)
      unfold nowL
      congr 1
      funext n
      rw [has_day_grid xs (xs ++ ys) (fun r hr => by simp [hr]) d d' n h', has_day_grid ys (xs ++ ys) (fun r hr => by simp [hr]) d d' n h']
    · have h' : (∀ x ∈ daysOf (xs ++ ys), d < x) ∨ (∀ x ∈ daysOf (xs ++ ys), x ≤ d) := h.imp (fun h x hx => h x ((mem_insAll _ _).2 hx)) (fun h x hx => h x ((mem_insAll _ _).2 hx))
      unfold nowL
      have : (fun n => cond (hasL xs d n) (hasL ys d n)) = fun _ => false := by
        funext n
        rw [has_day_out xs (xs ++ ys) (fun r hr => by simp [hr]) d n h', has_day_out ys (xs ++ ys) (fun r hr => by simp [hr]) d n h', hc]
      rw [this, spansL_never]
  · rw [← trisL_flat]
    unfold combL
    exact comb_join _ _
theorem pNormal_nf (xs : List Reg) : Nf (hasL xs) (pNormal xs) := by
  have h := combL_nf (fun x _ => x) rfl xs []
  exact h
/-- A normal form is its own normal form. -/
theorem Nf.again {f : Int → Int → Bool} {o : List Reg} (h : Nf f o) : pNormal o = o := by
  have h1 := pNormal_nf o
  have e : hasL o = f := funext fun d => funext fun n => h.has d n
  rw [e] at h1
  exact h1.unique h
end Go.Proofs.YtiefdlfninhbgaaGreatDoor
