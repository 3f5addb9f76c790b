/- Plain lists: spans of numbers (the same for the program and for the reference). -/
import Derived.Test.YtiefdlfninhbgaaGreatDoorReg
namespace Go.Proofs.YtiefdlfninhbgaaGreatDoor

abbrev Span := Int × Int
/-- What limited gives. -/
def limL (xs : List Reg) : List Reg × Int := if 400 < xs.length then ([], 4) else (xs, 0)
/-- One more range: it continues the last one, or it begins anew. -/
def addSpan (o : List Span) (a b : Int) : List Span :=
  match o.getLast? with
  | some s => if s.2 = a then o.dropLast ++ [(s.1, b)] else o ++ [(a, b)]
  | none => [(a, b)]
def pairs (l : List Int) : List (Int × Int) := l.zip l.tail
def spanStep (f : Int → Bool) (o : List Span) (p : Int × Int) : List Span := if f p.1 then addSpan o p.1 p.2 else o
def spansL (at_ : List Int) (f : Int → Bool) : List Span := (pairs at_).foldl (spanStep f) []
def spansTo (at_ : List Int) (f : Int → Bool) (i : Nat) : List Span := ((pairs at_).take i).foldl (spanStep f) []

theorem pairs_len (l : List Int) : (pairs l).length = l.length - 1 := by unfold pairs; simp
theorem pairs_at {l : List Int} {i : Nat} {a b : Int} (h1 : l[i]? = some a) (h2 : l[i + 1]? = some b) : (pairs l)[i]? = some (a, b) := by
  unfold pairs
  rw [List.getElem?_zip_eq_some]
  exact ⟨h1, by rw [List.getElem?_tail]; exact h2⟩
theorem spansTo_zero (l : List Int) (f : Int → Bool) : spansTo l f 0 = [] := rfl
theorem spansTo_step {l : List Int} {f : Int → Bool} {i : Nat} {a b : Int} (h1 : l[i]? = some a) (h2 : l[i + 1]? = some b) : spansTo l f (i + 1) = spanStep f (spansTo l f i) (a, b) := by
  have h := pairs_at h1 h2
  obtain ⟨hj, he⟩ := List.getElem?_eq_some_iff.1 h
  unfold spansTo
  rw [List.take_succ_eq_append_getElem hj, List.foldl_append, he]; rfl
theorem spansTo_all {l : List Int} {f : Int → Bool} {i : Nat} (h : l.length ≤ i + 1) : spansTo l f i = spansL l f := by
  unfold spansTo spansL; rw [List.take_of_length_le (by rw [pairs_len]; omega)]
theorem addSpan_len (o : List Span) (a b : Int) : (addSpan o a b).length ≤ o.length + 1 := by
  unfold addSpan
  cases h : o.getLast? with
  | none => simp
  | some s =>
    simp only
    split
    · rw [List.length_append, List.length_dropLast]; simp
    · simp
theorem spansTo_len (l : List Int) (f : Int → Bool) (i : Nat) : (spansTo l f i).length ≤ i := by
  unfold spansTo
  have : ∀ (ps : List (Int × Int)) (o : List Span), (ps.foldl (spanStep f) o).length ≤ o.length + ps.length := by
    intro ps
    induction ps with
    | nil => intro o; simp
    | cons p ps ih =>
      intro o
      rw [List.foldl_cons]
      have h1 := ih (spanStep f o p)
      have h2 : (spanStep f o p).length ≤ o.length + 1 := by
        unfold spanStep; split
        · exact addSpan_len _ _ _
        · omega
      rw [List.length_cons]; omega
  have h := this ((pairs l).take i) []
  rw [List.length_take] at h
  simp at h
  omega
theorem spansL_len (l : List Int) (f : Int → Bool) : (spansL l f).length ≤ l.length := by
  rw [← spansTo_all (i := l.length) (by omega)]; exact spansTo_len l f _
/-- The last span is continued. -/
theorem addSpan_join {o : List Span} {s : Span} {a b : Int} (hl : o[o.length - 1]? = some s) (h : s.2 = a) : addSpan o a b = o.set (o.length - 1) (s.1, b) := by
  have hg : o.getLast? = some s := by rw [List.getLast?_eq_getElem?]; exact hl
  unfold addSpan
  rw [hg]
  simp only [h, if_true]
  have hne : o ≠ [] := by rintro rfl; simp at hg
  obtain ⟨o', x, rfl⟩ : ∃ o' x, o = o' ++ [x] := ⟨o.dropLast, o.getLast hne, (List.dropLast_concat_getLast hne).symm⟩
  simp
theorem addSpan_new {o : List Span} {a b : Int} (h : ∀ s, o[o.length - 1]? = some s → s.2 ≠ a) : addSpan o a b = o ++ [(a, b)] := by
  unfold addSpan
  cases hg : o.getLast? with
  | none => rw [List.getLast?_eq_none_iff] at hg; subst hg; rfl
  | some s =>
    rw [List.getLast?_eq_getElem?] at hg
    simp only
    rw [if_neg (h s hg)]

def S2 (s : Span) : List Value := [.int .i64 s.1, .int .i64 s.2]
theorem S2_len (s : Span) : (S2 s).length = 2 := rfl
theorem S2_one (s : Span) : ∀ u ∈ S2 s, u.oneCell' = true := by simp [S2, Value.oneCell']
abbrev Spans (w : World) (B : Nat) (A : Option Addr) (n : Nat) (xs : List Span) : Prop := Sl S2 2 w B A n xs
theorem Sl.span {w : World} {B : Nat} {A : Option Addr} {n : Nat} {xs : List Span} {i : Nat} (h : Spans w B A n xs) (hi : i < n) :
    ∃ b off s, A = some ⟨b, off, none⟩ ∧ b < B ∧ xs[i]? = some s ∧ w.cell? ⟨b, off + i * 2, none⟩ = some (.int .i64 s.1) ∧ w.cell? ⟨b, off + i * 2 + 1, none⟩ = some (.int .i64 s.2) := by
  obtain ⟨b, off, r, hA, hb, hx, hc⟩ := h.at_ hi
  exact ⟨b, off, r, hA, hb, hx, hc 0 _ rfl, hc 1 _ rfl⟩
end Go.Proofs.YtiefdlfninhbgaaGreatDoor
