/- Plain theory: how many regions a normal form has; operations on normal forms. -/
import Derived.Test.YtiefdlfninhbgaaGreatDoorT4
namespace Go.Proofs.YtiefdlfninhbgaaGreatDoor

theorem asc_nodup_len : ∀ (l M : List Int), l.Pairwise (· < ·) → (∀ x ∈ l, x ∈ M) → l.length ≤ M.length := by
  intro l
  induction l with
  | nil => intro M _ _; simp
  | cons a l ih =>
    intro M h hm
    rw [List.pairwise_cons] at h
    have ha := hm a (by simp)
    have h1 := ih (M.erase a) h.2 (fun x hx => by
      have hne : x ≠ a := fun e => by have := h.1 x hx; omega
      exact (List.mem_erase_of_ne hne).2 (hm x (by simp [hx])))
    rw [List.length_erase_of_mem ha] at h1
    have : 0 < M.length := List.length_pos_of_mem ha
    rw [List.length_cons]; omega

/-- f is a function of what regions of L a pair belongs to. -/
def Drawn (L : List Reg) (f : Int → Int → Bool) : Prop :=
  (∀ d d' n n', (∀ r ∈ L, inR d n r = inR d' n' r) → f d n = f d' n') ∧ ∀ d n, (∀ r ∈ L, inR d n r = false) → f d n = false
theorem Drawn.has (L xs : List Reg) (h : ∀ r ∈ xs, r ∈ L) : Drawn L (hasL xs) := by
  refine ⟨fun d d' n n' hh => ?_, fun d n hh => ?_⟩
  · unfold hasL
    exact any_congr_mem fun r hr => hh r (h r hr)
  · unfold hasL
    rw [List.any_eq_false]
    intro r hr
    rw [hh r (h r hr)]; simp
theorem Drawn.cond {L : List Reg} {f g : Int → Int → Bool} {cond : Bool → Bool → Bool} (hc : cond false false = false) (hf : Drawn L f) (hg : Drawn L g) : Drawn L (fun d n => cond (f d n) (g d n)) :=
  ⟨fun d d' n n' hh => by show cond _ _ = cond _ _; rw [hf.1 d d' n n' hh, hg.1 d d' n n' hh], fun d n hh => by show cond _ _ = _; rw [hf.2 d n hh, hg.2 d n hh, hc]⟩

/-- The ends of spans, in order. -/
def endsOf (l : List Span) : List Int := l.flatMap fun s => [s.1, s.2]
theorem endsOf_len (l : List Span) : (endsOf l).length = 2 * l.length := by
  unfold endsOf
  induction l with
  | nil => rfl
  | cons a l ih => rw [List.flatMap_cons, List.length_append, ih, List.length_cons]; simp; omega
theorem Rle.ends {f : Int → Bool} {l : List Span} {lo : Int} {p : Bool} (h : Rle false f lo p (l.map toRun)) (hp : f (lo - 1) = p) :
    (endsOf l).Pairwise (· < ·) ∧ ∀ x ∈ endsOf l, lo ≤ x ∧ (p = true → lo < x) ∧ f (x - 1) ≠ f x := by
  induction l generalizing lo p with
  | nil => exact ⟨List.Pairwise.nil, fun x hx => by simp [endsOf] at hx⟩
  | cons s l ih =>
    have hch := h.change hp
    obtain ⟨h1, h2, h3, h4, h5, h6, h7⟩ := h
    unfold toRun at h1 h2 h3 h4 h5 h6 h7
    simp only at h1 h2 h3 h4 h5 h6 h7
    have hlast : f (s.2 - 1) = true := h5 _ (by omega) (by omega)
    obtain ⟨k1, k2⟩ := ih h7 hlast
    have hend : f (s.2 - 1) ≠ f s.2 := by
      rw [hlast]
      have := h7.end_ (by simp)
      exact fun e => this e.symm
    have hlt : p = true → lo < s.1 := fun e => by
      rcases Int.lt_or_eq_of_le h1 with hh | hh
      · exact hh
      · exact absurd e.symm (h6 hh.symm)
    have e : endsOf (s :: l) = s.1 :: s.2 :: endsOf l := rfl
    rw [e]
    refine ⟨?_, fun x hx => ?_⟩
    · rw [List.pairwise_cons, List.pairwise_cons]
      refine ⟨fun x hx => ?_, fun x hx => (k2 x hx).2.1 rfl, k1⟩
      rw [List.mem_cons] at hx
      rcases hx with rfl | hx
      · exact h2
      · have := (k2 x hx).1; omega
    · rw [List.mem_cons, List.mem_cons] at hx
      rcases hx with rfl | rfl | hx
      · exact ⟨h1, hlt, hch (toRun s) (by simp)⟩
      · exact ⟨by omega, fun e => by have := hlt e; omega, hend⟩
      · obtain ⟨m1, m2, m3⟩ := k2 x hx
        exact ⟨by omega, fun e => by have := hlt e; omega, m3⟩

def actN (L : List Reg) (d : Int) : Nat := (L.filter (act d)).length
theorem inR_act (d n : Int) (r : Reg) : inR d n r = (act d r && (decide (r.si ≤ n) && decide (n < r.un))) := by
  unfold inR act
  rw [Bool.and_assoc]
/-- As many spans as regions of the day, at most. -/
theorem spans_bound {L : List Reg} {f : Int → Int → Bool} (hf : Drawn L f) (d : Int) (l : List Span) (h : Runs false (f d) (l.map toRun)) : l.length ≤ actN L d := by
  obtain ⟨lo, h1, h2⟩ := h
  obtain ⟨k1, k2⟩ := h2.ends (h1 _ (by omega))
  have hsub : ∀ x ∈ endsOf l, x ∈ numsOf (L.filter (act d)) := by
    intro x hx
    obtain ⟨_, _, hne⟩ := k2 x hx
    by_cases hin : x ∈ numsOf (L.filter (act d))
    · exact hin
    · exfalso
      refine hne (hf.1 d d (x - 1) x (fun r hr => ?_))
      rw [inR_act, inR_act]
      cases ha : act d r with
      | false => rfl
      | true =>
        obtain ⟨e1, e2⟩ := mem_numsOf (List.mem_filter.2 ⟨hr, ha⟩)
        have n1 : r.si ≠ x := fun e => hin (e ▸ e1)
        have n2 : r.un ≠ x := fun e => hin (e ▸ e2)
        rw [Bool.eq_iff_iff]
        simp only [Bool.and_eq_true, decide_eq_true_eq, true_and]
        omega
  have hl := asc_nodup_len (endsOf l) _ k1 hsub
  rw [endsOf_len, numsOf_len] at hl
  unfold actN; omega

/-- How many ends lie at a day or before. -/
def endN (L : List Reg) (d : Int) : Nat := ((daysOf L).filter (fun x => decide (x ≤ d))).length
theorem endN_cons (r : Reg) (L : List Reg) (d : Int) : endN (r :: L) d = (if r.fr ≤ d then 1 else 0) + (if r.to ≤ d then 1 else 0) + endN L d := by
  unfold endN daysOf
  rw [List.flatMap_cons, List.filter_append, List.length_append]
  simp only [List.filter_cons, List.filter_nil, decide_eq_true_eq]
  split <;> split <;> simp
theorem actN_cons (r : Reg) (L : List Reg) (d : Int) : actN (r :: L) d = (if act d r = true then 1 else 0) + actN L d := by
  unfold actN
  rw [List.filter_cons]
  split
  · rw [List.length_cons]; omega
  · omega
theorem actN_le (L : List Reg) (d : Int) : actN L d ≤ endN L d ∧ actN L d + endN L d ≤ 2 * L.length := by
  induction L with
  | nil => exact ⟨by simp [actN, endN], by simp [actN, endN, daysOf]⟩
  | cons r L ih =>
    rw [endN_cons, actN_cons, List.length_cons]
    unfold act
    obtain ⟨h1, h2⟩ := ih
    simp only [Bool.and_eq_true, decide_eq_true_eq]
    constructor
    · repeat' split
      all_goals omega
    · repeat' split
      all_goals omega
theorem endN_lt {L : List Reg} {d d' : Int} (h : d < d') (hm : d' ∈ daysOf L) : endN L d < endN L d' := by
  unfold endN
  generalize daysOf L = l at *
  have hle : ∀ l : List Int, (l.filter (fun x => decide (x ≤ d))).length ≤ (l.filter (fun x => decide (x ≤ d'))).length := by
    intro l
    induction l with
    | nil => simp
    | cons a l ih =>
      rw [List.filter_cons, List.filter_cons]
      simp only [decide_eq_true_eq]
      repeat' split
      all_goals (try simp only [List.length_cons]); omega
  induction l with
  | nil => simp at hm
  | cons a l ih =>
    rw [List.filter_cons, List.filter_cons]
    simp only [decide_eq_true_eq]
    rw [List.mem_cons] at hm
    have hl := hle l
    rcases hm with rfl | hm
    · rw [if_neg (by omega), if_pos (by omega), List.length_cons]; omega
    · have := ih hm
      repeat' split
      all_goals (try simp only [List.length_cons]); omega
def tent (n t : Nat) : Nat := min t (2 * n - t)
def tentSum (n : Nat) : Nat → Nat
  | 0 => 0
  | k + 1 => tentSum n k + tent n k
theorem tent_bound (n : Nat) : ∀ (ts : List Nat) (m : Nat), ts.Pairwise (· > ·) → (∀ t ∈ ts, t < m) → (ts.map (tent n)).sum ≤ tentSum n m := by
  intro ts
  induction ts with
  | nil => intro m _ _; simp
  | cons a ts ih =>
    intro m h hm
    rw [List.pairwise_cons] at h
    have ha := hm a (by simp)
    have h1 := ih a h.2 (fun t ht => h.1 t ht)
    have h2 : ∀ k, a < k → tentSum n a + tent n a ≤ tentSum n k := by
      intro k
      induction k with
      | zero => intro h; omega
      | succ k ihk =>
        intro hk
        rw [tentSum]
        rcases Nat.lt_or_ge a k with hh | hh
        · have := ihk hh; omega
        · have : a = k := by omega
          subst this; exact Nat.le_refl _
    have := h2 m ha
    rw [List.map_cons, List.sum_cons]; omega
theorem tentSum_ok : ∀ n, n ≤ 20 → tentSum n (2 * n + 1) ≤ 400 := by decide +kernel
theorem sum_le_sum {α : Type} (l : List α) (f g : α → Nat) (h : ∀ x ∈ l, f x ≤ g x) : (l.map f).sum ≤ (l.map g).sum := by
  induction l with
  | nil => simp
  | cons a l ih =>
    have h1 := h a (by simp)
    have h2 := ih (fun x hx => h x (by simp [hx]))
    simp only [List.map_cons, List.sum_cons]; omega
theorem flat_sum {α β : Type} (l : List α) (f : α → List β) : (l.flatMap f).length = (l.map fun a => (f a).length).sum := by
  induction l with
  | nil => rfl
  | cons a l ih => rw [List.flatMap_cons, List.length_append, ih, List.map_cons, List.sum_cons]
theorem sum_rev (l : List Nat) : l.reverse.sum = l.sum := by
  induction l with
  | nil => rfl
  | cons a l ih => rw [List.reverse_cons, List.sum_append, ih, List.sum_cons]; simp; omega
/-- A normal form over n regions has at most n * n regions; here: at most 400 over 20. -/
theorem Nf.small {L : List Reg} {f : Int → Int → Bool} {o : List Reg} (hl : L.length ≤ 20) (hf : Drawn L f) (h : Nf f o) : o.length ≤ 400 := by
  obtain ⟨G, rs, h1, h2, rfl⟩ := h
  rw [flat_sum]
  have hday : ∀ q ∈ rs, q.1 ∈ daysOf L := by
    intro q hq
    by_cases hin : q.1 ∈ daysOf L
    · exact hin
    · exfalso
      refine h2.change q hq ?_
      have e : f (q.1 - 1) = f q.1 := by
        funext n
        refine hf.1 _ _ n n (fun r hr => ?_)
        obtain ⟨e1, e2⟩ := mem_daysOf hr
        have n1 : r.fr ≠ q.1 := fun e => hin (e ▸ e1)
        have n2 : r.to ≠ q.1 := fun e => hin (e ▸ e2)
        unfold inR
        rw [Bool.eq_iff_iff]
        simp only [Bool.and_eq_true, decide_eq_true_eq]
        omega
      have g1 := h1 (q.1 - 1)
      rw [e] at g1
      exact toRun_inj (g1.unique (h1 q.1))
  have hb : (rs.map fun a => (regsRun a).length).sum ≤ (rs.map fun a => tent L.length (endN L a.1)).sum := by
    refine sum_le_sum rs _ _ (fun q hq => ?_)
    obtain ⟨k1, k2, k3⟩ := h2.mem q hq
    have hs := h1 q.1
    rw [k3 q.1 (Int.le_refl _) k1] at hs
    have b1 := spans_bound hf q.1 q.2.2 hs
    obtain ⟨b2, b3⟩ := actN_le L q.1
    have hlen : (regsRun q).length = q.2.2.length := by unfold regsRun bandRegs; simp
    rw [hlen]
    unfold tent
    omega
  have hp : (rs.map fun a => endN L a.1).Pairwise (· < ·) := by
    rw [List.pairwise_map]
    have hap := h2.apart
    have hm := h2.mem
    clear hb h1 h2
    induction rs with
    | nil => exact List.Pairwise.nil
    | cons q rs ih =>
      rw [List.pairwise_cons] at hap ⊢
      refine ⟨fun s hs => ?_, ih (fun q hq => hday q (by simp [hq])) hap.2 (fun q hq => hm q (by simp [hq]))⟩
      have e1 := hap.1 s hs
      have e2 := (hm q (by simp)).1
      exact endN_lt (by omega) (hday s (by simp [hs]))
  have ht := tent_bound L.length (rs.map fun a => endN L a.1).reverse (2 * L.length + 1) (List.pairwise_reverse.2 (hp.imp (fun h => h))) (fun t ht => by
    rw [List.mem_reverse] at ht
    obtain ⟨q, _, rfl⟩ := List.mem_map.1 ht
    have := (actN_le L q.1).2
    omega)
  rw [List.map_reverse, sum_rev, List.map_map] at ht
  have hc := tentSum_ok L.length hl
  have e : (tent L.length ∘ fun a : Int × Int × List Span => endN L a.1) = fun a => tent L.length (endN L a.1) := rfl
  rw [e] at ht
  omega

/-- Where pairs of valid regions lie. -/
theorem Drawn.range {L : List Reg} {f : Int → Int → Bool} (hf : Drawn L f) (hv : ∀ r ∈ L, checkOne r = 0) (d n : Int) (h : f d n = true) : -25567 ≤ d ∧ d < 84006 ∧ 0 ≤ n ∧ n < 1001 := by
  by_cases hin : ∀ r ∈ L, inR d n r = false
  · rw [hf.2 d n hin] at h; cases h
  · obtain ⟨r, hr, hi⟩ : ∃ r ∈ L, inR d n r = true := by
      apply Classical.byContradiction
      intro hno
      refine hin (fun r hr => ?_)
      cases hh : inR d n r with
      | false => rfl
      | true => exact absurd ⟨r, hr, hh⟩ hno
    obtain ⟨q1, q2, q3, q4, q5, q6⟩ := checkOne_ok (hv r hr)
    unfold inR at hi
    simp only [Bool.and_eq_true, decide_eq_true_eq] at hi
    omega
theorem checkOne_zero {r : Reg} (h1 : -25567 ≤ r.fr) (h2 : r.fr < r.to) (h3 : r.to ≤ 84006) (h4 : 0 ≤ r.si) (h5 : r.si < r.un) (h6 : r.un ≤ 1001) : checkOne r = 0 := by
  unfold checkOne badDay badNum
  rw [if_neg (by simp; omega), if_neg (by simp; omega)]
theorem Nf.valid {L : List Reg} {f : Int → Int → Bool} {o : List Reg} (hf : Drawn L f) (hv : ∀ r ∈ L, checkOne r = 0) (h : Nf f o) : ∀ r ∈ o, checkOne r = 0 := by
  intro r hr
  obtain ⟨h1, h2, h3⟩ := h.reg r hr
  have a := hf.range hv r.fr r.si (h3 _ _ (by unfold inR; simp only [Bool.and_eq_true, decide_eq_true_eq]; omega))
  have b := hf.range hv (r.to - 1) (r.un - 1) (h3 _ _ (by unfold inR; simp only [Bool.and_eq_true, decide_eq_true_eq]; omega))
  exact checkOne_zero (by omega) h1 (by omega) (by omega) h2 (by omega)
theorem pCheckL_zero {xs : List Reg} (h1 : xs.length ≤ 400) (h2 : ∀ r ∈ xs, checkOne r = 0) (h3 : pNormal xs = xs) : pCheckL xs = 0 := by
  unfold pCheckL
  rw [if_neg (by omega)]
  have : xs.find? (fun r => checkOne r != 0) = none := List.find?_eq_none.2 (fun x hx => by simp [h2 x hx])
  rw [this]
  simp only
  rw [if_pos h3]
/-- A set over regions: its normal form, and how it is drawn. -/
def NS (L : List Reg) (f : Int → Int → Bool) (o : List Reg) : Prop := Nf f o ∧ Drawn L f
theorem NS.check {L : List Reg} {f : Int → Int → Bool} {o : List Reg} (hl : L.length ≤ 20) (hv : ∀ r ∈ L, checkOne r = 0) (h : NS L f o) : pCheckL o = 0 :=
  pCheckL_zero (h.1.small hl h.2) (h.1.valid h.2 hv) h.1.again
theorem NS.oper {L : List Reg} {f g : Int → Int → Bool} {xs ys : List Reg} {cond : Bool → Bool → Bool} (hl : L.length ≤ 20) (hv : ∀ r ∈ L, checkOne r = 0) (hc : cond false false = false) (hx : NS L f xs) (hy : NS L g ys) :
    ∃ o, pOper cond xs ys = (o, 0) ∧ NS L (fun d n => cond (f d n) (g d n)) o := by
  have hn := combL_nf cond hc xs ys
  have e : (fun d n => cond (hasL xs d n) (hasL ys d n)) = fun d n => cond (f d n) (g d n) := by
    funext d n
    rw [hx.1.has, hy.1.has]
  rw [e] at hn
  have hd := Drawn.cond hc hx.2 hy.2
  refine ⟨combL cond xs ys, ?_, hn, hd⟩
  unfold pOper
  rw [if_pos ⟨hx.check hl hv, hy.check hl hv⟩]
  unfold limL
  rw [if_neg (by have := hn.small hl hd; omega)]
theorem NS.normal {L xs : List Reg} (hl : L.length ≤ 20) (hv : ∀ r ∈ L, checkOne r = 0) (h : ∀ r ∈ xs, r ∈ L) (hx : xs.length ≤ 400) : ∃ o, pNormL xs = (o, 0) ∧ NS L (hasL xs) o := by
  have hn := pNormal_nf xs
  have hd := Drawn.has L xs h
  refine ⟨pNormal xs, ?_, hn, hd⟩
  unfold pNormL
  rw [if_neg (by omega), if_neg]
  · unfold limL
    rw [if_neg (by have := hn.small hl hd; omega)]
  · rw [Bool.not_eq_true, List.any_eq_false]
    intro r hr
    simp [hv r (h r hr)]
theorem NS.unique {L L' : List Reg} {f : Int → Int → Bool} {o o' : List Reg} (h : NS L f o) (h' : NS L' f o') : o = o' := h.1.unique h'.1
end Go.Proofs.YtiefdlfninhbgaaGreatDoor
