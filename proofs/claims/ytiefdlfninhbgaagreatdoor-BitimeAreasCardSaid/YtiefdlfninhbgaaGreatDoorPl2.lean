/- Plain lists: bands of days with spans of numbers, runs of equal bands, and their regions. -/
import Derived.Test.YtiefdlfninhbgaaGreatDoorPl
namespace Go.Proofs.YtiefdlfninhbgaaGreatDoor

structure Band where
  fr : Int
  to : Int
  sp : List Span
deriving DecidableEq

/-- One more band: it continues the last run, or it begins a new one. -/
def addRun (o : List Band) (b : Band) : List Band :=
  match o.getLast? with
  | some s => if s.to = b.fr ∧ s.sp = b.sp then o.dropLast ++ [{ s with to := b.to }] else o ++ [b]
  | none => [b]
def runsL (bs : List Band) : List Band := bs.foldl addRun []
def bandRegs (r : Band) : List Reg := r.sp.map fun s => ⟨r.fr, r.to, s.1, s.2⟩
def joinL (bs : List Band) : List Reg := (runsL bs).flatMap bandRegs

theorem runsL_step {bs : List Band} {j : Nat} {b : Band} (h : bs[j]? = some b) : runsL (bs.take (j + 1)) = addRun (runsL (bs.take j)) b := by
  obtain ⟨hj, rfl⟩ := List.getElem?_eq_some_iff.1 h
  unfold runsL; rw [List.take_succ_eq_append_getElem hj, List.foldl_append]; rfl
theorem addRun_join {o : List Band} {s b : Band} (hl : o[o.length - 1]? = some s) (h : s.to = b.fr) (h2 : s.sp = b.sp) : addRun o b = o.set (o.length - 1) { s with to := b.to } := by
  have hg : o.getLast? = some s := by rw [List.getLast?_eq_getElem?]; exact hl
  unfold addRun
  rw [hg]
  simp only [h, h2, and_self, if_true]
  have hne : o ≠ [] := by rintro rfl; simp at hg
  obtain ⟨o', x, rfl⟩ : ∃ o' x, o = o' ++ [x] := ⟨o.dropLast, o.getLast hne, (List.dropLast_concat_getLast hne).symm⟩
  simp [← h2]
theorem addRun_new {o : List Band} {b : Band} (h : ∀ s, o[o.length - 1]? = some s → ¬ (s.to = b.fr ∧ s.sp = b.sp)) : addRun o b = o ++ [b] := by
  unfold addRun
  cases hg : o.getLast? with
  | none => rw [List.getLast?_eq_none_iff] at hg; subst hg; rfl
  | some s =>
    rw [List.getLast?_eq_getElem?] at hg
    simp only
    rw [if_neg (h s hg)]
theorem addRun_len (o : List Band) (b : Band) : (addRun o b).length ≤ o.length + 1 := by
  unfold addRun
  cases h : o.getLast? with
  | none => simp
  | some s =>
    simp only
    split
    · rw [List.length_append, List.length_dropLast]; simp
    · simp
theorem runsL_len (bs : List Band) : (runsL bs).length ≤ bs.length := by
  unfold runsL
  have : ∀ (l o : List Band), (l.foldl addRun o).length ≤ o.length + l.length := by
    intro l
    induction l with
    | nil => intro o; simp
    | cons p l ih => intro o; rw [List.foldl_cons]; have h1 := ih (addRun o p); have h2 := addRun_len o p; rw [List.length_cons]; omega
  have h := this bs []
  simpa using h

theorem mem_addRun {o : List Band} {b x : Band} (h : x ∈ addRun o b) : x.sp = b.sp ∨ ∃ y ∈ o, x.sp = y.sp := by
  unfold addRun at h
  cases hg : o.getLast? with
  | none => rw [hg] at h; simp only [List.mem_singleton] at h; exact .inl (by rw [h])
  | some s =>
    rw [hg] at h
    simp only at h
    have hs : s ∈ o := List.mem_of_getLast? hg
    split at h
    · rw [List.mem_append] at h
      rcases h with h | h
      · exact .inr ⟨x, List.dropLast_subset o h, rfl⟩
      · simp only [List.mem_singleton] at h; exact .inr ⟨s, hs, by rw [h]⟩
    · rw [List.mem_append] at h
      rcases h with h | h
      · exact .inr ⟨x, h, rfl⟩
      · simp only [List.mem_singleton] at h; exact .inl (by rw [h])
theorem runsL_sp (bs : List Band) : ∀ x ∈ runsL bs, ∃ y ∈ bs, x.sp = y.sp := by
  have : ∀ (l o : List Band), ∀ x ∈ l.foldl addRun o, (∃ y ∈ l, x.sp = y.sp) ∨ ∃ y ∈ o, x.sp = y.sp := by
    intro l
    induction l with
    | nil => intro o x hx; exact .inr ⟨x, hx, rfl⟩
    | cons a l ih =>
      intro o x hx
      rw [List.foldl_cons] at hx
      rcases ih _ x hx with ⟨y, hy, e⟩ | ⟨y, hy, e⟩
      · exact .inl ⟨y, by simp [hy], e⟩
      · rcases mem_addRun hy with h | ⟨z, hz, e'⟩
        · exact .inl ⟨a, by simp, e.trans h⟩
        · exact .inr ⟨z, hz, e.trans e'⟩
  intro x hx
  rcases this bs [] x hx with h | ⟨y, hy, _⟩
  · exact h
  · simp at hy

/-- A band in memory: two numbers and a slice. -/
structure RB where
  fr : Int
  to : Int
  A : Option Addr
  n : Nat
  c : Nat
def RB.vals (r : RB) : List Value := [.int .i64 r.fr, .int .i64 r.to, .slice r.A r.n r.c]
theorem RB.vals_len (r : RB) : r.vals.length = 3 := rfl
theorem RB.vals_one (r : RB) : ∀ u ∈ r.vals, u.oneCell' = true := by simp [RB.vals, Value.oneCell']
theorem Sl.band {w : World} {B : Nat} {A : Option Addr} {n : Nat} {xs : List RB} {i : Nat} (h : Sl RB.vals 3 w B A n xs) (hi : i < n) :
    ∃ b off r, A = some ⟨b, off, none⟩ ∧ b < B ∧ xs[i]? = some r ∧ w.cell? ⟨b, off + i * 3, none⟩ = some (.int .i64 r.fr) ∧ w.cell? ⟨b, off + i * 3 + 1, none⟩ = some (.int .i64 r.to) ∧ w.cell? ⟨b, off + i * 3 + 2, none⟩ = some (.slice r.A r.n r.c) := by
  obtain ⟨b, off, r, hA, hb, hx, hc⟩ := h.at_ hi
  exact ⟨b, off, r, hA, hb, hx, hc 0 _ rfl, hc 1 _ rfl, hc 2 _ rfl⟩
def BandOf (w : World) (B : Nat) (r : RB) (b : Band) : Prop := r.fr = b.fr ∧ r.to = b.to ∧ Spans w B r.A r.n b.sp
def BandsOf (w : World) (B : Nat) (rs : List RB) (bs : List Band) : Prop := rs.length = bs.length ∧ ∀ (i : Nat) r b, rs[i]? = some r → bs[i]? = some b → BandOf w B r b
section
open Go.RowKit
variable {w w' : World} {B B' : Nat} {rs : List RB} {bs : List Band}
theorem BandsOf.below (h : BandsOf w B rs bs) (hb : Below B w w') : BandsOf w' B rs bs := ⟨h.1, fun i r b hr hbb => ⟨(h.2 i r b hr hbb).1, (h.2 i r b hr hbb).2.1, (h.2 i r b hr hbb).2.2.below hb⟩⟩
theorem BandsOf.more (h : BandsOf w B rs bs) (hb : B ≤ B') : BandsOf w B' rs bs := ⟨h.1, fun i r b hr hbb => ⟨(h.2 i r b hr hbb).1, (h.2 i r b hr hbb).2.1, (h.2 i r b hr hbb).2.2.more hb⟩⟩
theorem BandsOf.nil : BandsOf w B [] [] := ⟨rfl, fun i r b hr => by simp at hr⟩
theorem BandsOf.at_ (h : BandsOf w B rs bs) {i : Nat} {r : RB} (hr : rs[i]? = some r) : ∃ b, bs[i]? = some b ∧ BandOf w B r b := by
  have hi := (List.getElem?_eq_some_iff.1 hr).1
  have hb : bs[i]? = some (bs[i]'(by rw [← h.1]; exact hi)) := List.getElem?_eq_getElem _
  exact ⟨_, hb, h.2 i r _ hr hb⟩
theorem BandsOf.snoc (h : BandsOf w B rs bs) {r : RB} {b : Band} (hr : BandOf w B r b) : BandsOf w B (rs ++ [r]) (bs ++ [b]) := by
  refine ⟨by simp [h.1], fun i r' b' hr' hb' => ?_⟩
  by_cases hi : i < rs.length
  · rw [List.getElem?_append_left hi] at hr'
    rw [List.getElem?_append_left (by rw [← h.1]; exact hi)] at hb'
    exact h.2 i r' b' hr' hb'
  · rw [List.getElem?_append_right (by omega)] at hr'
    rw [List.getElem?_append_right (by rw [← h.1]; omega), ← h.1] at hb'
    have hl := (List.getElem?_eq_some_iff.1 hr').1
    simp at hl
    rw [hl] at hr' hb'
    simp at hr' hb'
    subst hr'; subst hb'; exact hr
theorem BandsOf.set_ (h : BandsOf w B rs bs) {i : Nat} {r : RB} {b : Band} (hr : BandOf w B r b) : BandsOf w B (rs.set i r) (bs.set i b) := by
  refine ⟨by simp [h.1], fun i' r' b' hr' hb' => ?_⟩
  rw [List.getElem?_set] at hr' hb'
  by_cases he : i = i'
  · subst he
    simp only [if_true] at hr' hb'
    split at hr'
    · split at hb'
      · injection hr' with hr'; injection hb' with hb'; subst hr'; subst hb'; exact hr
      · cases hb'
    · cases hr'
  · rw [if_neg he] at hr' hb'
    exact h.2 i' r' b' hr' hb'
end
end Go.Proofs.YtiefdlfninhbgaaGreatDoor
