/- Plain theory for BitimeUnique: lists with the same pairs have the same normal form. -/
import Derived.Test.YtiefdlfninhbgaaGreatDoorT5
namespace Go.Proofs.YtiefdlfninhbgaaGreatDoor

theorem hasL_append (xs ys : List Reg) (d n : Int) : hasL (xs ++ ys) d n = (hasL xs d n || hasL ys d n) := by unfold hasL; rw [List.any_append]
theorem hasL_turn (xs : List Reg) : hasL (xs.reverse ++ xs) = hasL xs := by
  funext d n
  rw [hasL_append]
  unfold hasL
  rw [List.any_reverse, Bool.or_self]
/-- A region cut at a day, then its later part at a number. -/
def cutX (r : Reg) (d : Int) : Reg := if r.fr < d ∧ d < r.to then ⟨r.fr, d, r.si, r.un⟩ else r
def cutY0 (r : Reg) (d : Int) : Reg := if r.fr < d ∧ d < r.to then ⟨d, r.to, r.si, r.un⟩ else r
def cutY (y : Reg) (k : Int) : Reg := if y.si < k ∧ k < y.un then ⟨y.fr, y.to, y.si, k⟩ else y
def cutZ (y : Reg) (k : Int) : Reg := if y.si < k ∧ k < y.un then ⟨y.fr, y.to, k, y.un⟩ else y
theorem cut_day (r : Reg) (d a b : Int) : (inR a b (cutX r d) || inR a b (cutY0 r d)) = inR a b r := by
  unfold cutX cutY0 inR
  split
  · rw [Bool.eq_iff_iff]; simp only [Bool.or_eq_true, Bool.and_eq_true, decide_eq_true_eq]; omega
  · rw [Bool.or_self]
theorem cut_num (y : Reg) (k a b : Int) : (inR a b (cutY y k) || inR a b (cutZ y k)) = inR a b y := by
  unfold cutY cutZ inR
  split
  · rw [Bool.eq_iff_iff]; simp only [Bool.or_eq_true, Bool.and_eq_true, decide_eq_true_eq]; omega
  · rw [Bool.or_self]
def cutL (xs : List Reg) (k : Nat) (r : Reg) (d n : Int) : List Reg := xs.take k ++ ([cutX r d, cutY (cutY0 r d) n, cutZ (cutY0 r d) n] ++ xs.drop (k + 1))
theorem cutL_has {xs : List Reg} {k : Nat} {r : Reg} (h : xs[k]? = some r) (d n : Int) : hasL (cutL xs k r d n) = hasL xs := by
  funext a b
  obtain ⟨hk, rfl⟩ := List.getElem?_eq_some_iff.1 h
  have e : xs = xs.take k ++ ([xs[k]] ++ xs.drop (k + 1)) := by simp
  conv => rhs; rw [e]
  unfold cutL
  rw [hasL_append, hasL_append, hasL_append, hasL_append]
  congr 2
  unfold hasL
  simp only [List.any_cons, List.any_nil, Bool.or_false]
  rw [cut_num, cut_day]
theorem cutL_len {xs : List Reg} {k : Nat} (hk : k < xs.length) (r : Reg) (d n : Int) : (cutL xs k r d n).length = xs.length + 2 := by
  unfold cutL; simp only [List.length_append, List.length_take, List.length_cons, List.length_nil, List.length_drop]; omega
theorem cut_valid {r : Reg} (h : checkOne r = 0) (d n : Int) : checkOne (cutX r d) = 0 ∧ checkOne (cutY (cutY0 r d) n) = 0 ∧ checkOne (cutZ (cutY0 r d) n) = 0 := by
  obtain ⟨h1, h2, h3, h4, h5, h6⟩ := checkOne_ok h
  have hy0 : checkOne (cutY0 r d) = 0 := by
    unfold cutY0
    split
    · exact checkOne_zero (by simp only; omega) (by simp only; omega) (by simp only; omega) (by simp only; omega) (by simp only; omega) (by simp only; omega)
    · exact h
  obtain ⟨g1, g2, g3, g4, g5, g6⟩ := checkOne_ok hy0
  generalize cutY0 r d = y at *
  refine ⟨?_, ?_, ?_⟩
  · unfold cutX
    split
    · exact checkOne_zero (by simp only; omega) (by simp only; omega) (by simp only; omega) (by simp only; omega) (by simp only; omega) (by simp only; omega)
    · exact h
  · unfold cutY
    split
    · exact checkOne_zero (by simp only; omega) (by simp only; omega) (by simp only; omega) (by simp only; omega) (by simp only; omega) (by simp only; omega)
    · exact hy0
  · unfold cutZ
    split
    · exact checkOne_zero (by simp only; omega) (by simp only; omega) (by simp only; omega) (by simp only; omega) (by simp only; omega) (by simp only; omega)
    · exact hy0
theorem norm_same {xs ys : List Reg} (hl : ys.length ≤ 20) (hv : ∀ r ∈ ys, checkOne r = 0) (he : hasL ys = hasL xs) : pNormL ys = (pNormal xs, 0) := by
  obtain ⟨o, e, hn⟩ := NS.normal hl hv (fun r h => h) (by omega)
  rw [e, he] at *
  rw [hn.1.unique (pNormal_nf xs)]
theorem norm_turn {xs : List Reg} (hl : xs.length ≤ 10) (hv : ∀ r ∈ xs, checkOne r = 0) : pNormL (xs.reverse ++ xs) = (pNormal xs, 0) :=
  norm_same (by simp; omega) (fun r hr => hv r (by simpa using hr)) (hasL_turn xs)
theorem norm_cut {xs : List Reg} {k : Nat} {r : Reg} (h : xs[k]? = some r) (d n : Int) (hl : xs.length ≤ 10) (hv : ∀ r ∈ xs, checkOne r = 0) : pNormL (cutL xs k r d n) = (pNormal xs, 0) := by
  have hk := (List.getElem?_eq_some_iff.1 h).1
  refine norm_same (by rw [cutL_len hk]; omega) (fun s hs => ?_) (cutL_has h d n)
  obtain ⟨c1, c2, c3⟩ := cut_valid (hv r (List.mem_of_getElem? h)) d n
  unfold cutL at hs
  simp only [List.mem_append, List.mem_cons, List.not_mem_nil, or_false] at hs
  rcases hs with hs | (rfl | rfl | rfl) | hs
  · exact hv s (List.mem_of_mem_take hs)
  · exact c1
  · exact c2
  · exact c3
  · exact hv s (List.mem_of_mem_drop hs)
theorem norm_one {xs : List Reg} (hl : xs.length ≤ 10) (hv : ∀ r ∈ xs, checkOne r = 0) : pNormL xs = (pNormal xs, 0) := norm_same (by omega) hv rfl
theorem norm_again {xs : List Reg} (hl : xs.length ≤ 10) (hv : ∀ r ∈ xs, checkOne r = 0) : pNormL (pNormal xs) = (pNormal xs, 0) := by
  have hn := pNormal_nf xs
  have hd := Drawn.has xs xs (fun r h => h)
  have hsm := hn.small (by omega) hd
  unfold pNormL
  rw [if_neg (by omega), if_neg, hn.again]
  · unfold limL
    rw [if_neg (by omega)]
  · rw [Bool.not_eq_true, List.any_eq_false]
    intro r hr
    simp [hn.valid hd hv r hr]
end Go.Proofs.YtiefdlfninhbgaaGreatDoor
