/- The program's combine: plain form and the state of its loop in memory. -/
import Derived.Test.YtiefdlfninhbgaaGreatDoorP6
import Derived.Test.YtiefdlfninhbgaaGreatDoorP3
import Derived.Test.YtiefdlfninhbgaaGreatDoorP4
import Derived.Test.YtiefdlfninhbgaaGreatDoorEq
namespace Go.Proofs.YtiefdlfninhbgaaGreatDoor
open Go.RowKit Go.Shelf
attribute [local go_sem] Oper.semAt_some

theorem wpListIn_app {α : Type} {enc : α → List Value} {k base : Nat} {e : TypeId} {F : Fence} {nF : Nat} {P : Program} (w : World) {ops : Array Oper} {rest : List Oper} {o : Oper} {a : Act} {Q : Exit → Act → World → Prop} (hgd : o.guard = none) (s x : Operand) (t : TypeId)
    (ho : o.op = .call { callee := .builtin .append, args := #[s, x], argTypes := #[t, t] }) {bytes : Nat} (hT : ElemT P t e k bytes) (he : ∀ x, (enc x).length = k) (h1 : ∀ x, ∀ u ∈ enc x, u.oneCell' = true)
    (v : Value) (xs : List α) (hs : a.eval s = v) (hown : Own enc k e w base v xs) (B : Nat) (A : Option Addr) (m c : Nat) (ys : List α) (hx : a.eval x = .slice A m c) (hr : Sl enc k w B A m ys)
    (hlen : xs.length + m ≤ 100000000000) (hbase : base ≤ w.heap.size)
    (h : ∀ A' c' w', Own enc k e w' base (.slice A' (xs.length + m) c') (xs ++ ys) → w.grownBy w' v.ownBlock → (A'.map Addr.block = v.ownBlock ∨ A'.map Addr.block = some w.heap.size) → wpListIn F nF P ops Q rest (a.put o.dst (.slice A' (xs.length + m) c')) w') : wpListIn F nF P ops Q (o :: rest) a w := by
  refine wpListIn_plain hgd fun K hK => ?_
  obtain ⟨A', c', w', hrun, h2, h3, h4⟩ := run_app (P := P) w t o.type hT he h1 v xs hown B A m c ys hr hlen hbase
  unfold Oper.wpIn
  refine ⟨by simp [Oper.about, ho, resolve, Target.leads, Sem.run_pure], ?_⟩
  rw [Oper.semAt_plain F _ _ (by rw [ho]; intro c hc'; cases hc')]
  simp [execOp, ho, resolve, invoke, builtin, hs, hx, hrun, Result.andThen]
  exact hK _ _ (h A' c' w' h2 h3 h4)

/-- The state of combine's loop. -/
structure CSt where
  out : List Reg
  before : List Span
  fr : Nat
  en : Int
def numsOf (xs : List Reg) : List Int := xs.flatMap fun r => [r.si, r.un]
theorem numsOf_step {xs : List Reg} {j : Nat} {r : Reg} (h : xs[j]? = some r) : numsOf (xs.take (j + 1)) = numsOf (xs.take j) ++ [r.si, r.un] := by
  obtain ⟨hj, rfl⟩ := List.getElem?_eq_some_iff.1 h
  unfold numsOf; rw [List.take_succ_eq_append_getElem hj, List.flatMap_append]; simp
theorem numsOf_len (xs : List Reg) : (numsOf xs).length = 2 * xs.length := by
  unfold numsOf
  induction xs with
  | nil => rfl
  | cons a xs ih => rw [List.flatMap_cons, List.length_append, ih, List.length_cons]; simp; omega
def nowL (cond : Bool → Bool → Bool) (xs ys : List Reg) (at_ : List Int) (d : Int) : List Span := spansL at_ fun n => cond (hasL xs d n) (hasL ys d n)
def setTo (t : Int) (r : Reg) : Reg := ⟨r.fr, t, r.si, r.un⟩
def combStep (now : Int → List Span) (s : CSt) (p : Int × Int) : CSt :=
  if s.en = p.1 ∧ now p.1 = s.before then ⟨s.out.take s.fr ++ (s.out.drop s.fr).map (setTo p.2), s.before, s.fr, p.2⟩
  else ⟨s.out ++ (now p.1).map (fun q => ⟨p.1, p.2, q.1, q.2⟩), now p.1, s.out.length, p.2⟩
def combSt (now : Int → List Span) (ps : List (Int × Int)) : CSt := ps.foldl (combStep now) ⟨[], [], 0, 0⟩
def combL (cond : Bool → Bool → Bool) (xs ys : List Reg) : List Reg :=
  (combSt (nowL cond xs ys (distL (numsOf (xs ++ ys)))) (pairs (distL (daysOf (xs ++ ys))))).out

theorem setTo_map_len (l : List Reg) (t : Int) (n : Nat) : (l.take n ++ (l.drop n).map (setTo t)).length = l.length := by
  rw [List.length_append, List.length_map, List.length_take, List.length_drop]; omega
theorem combSt_snoc (now : Int → List Span) (ps : List (Int × Int)) (p : Int × Int) : combSt now (ps ++ [p]) = combStep now (combSt now ps) p := by unfold combSt; rw [List.foldl_append]; rfl
theorem combSt_fr (now : Int → List Span) (ps : List (Int × Int)) : (combSt now ps).fr ≤ (combSt now ps).out.length := by
  have : ∀ (l : List (Int × Int)) (s : CSt), s.fr ≤ s.out.length → (l.foldl (combStep now) s).fr ≤ (l.foldl (combStep now) s).out.length := by
    intro l
    induction l with
    | nil => intro s h; exact h
    | cons p l ih =>
      intro s h
      rw [List.foldl_cons]
      apply ih
      unfold combStep
      split
      · rw [setTo_map_len]; exact h
      · simp
  exact this ps _ (Nat.le_refl _)
theorem combSt_len (now : Int → List Span) (S : Nat) (hS : ∀ d, (now d).length ≤ S) (ps : List (Int × Int)) : (combSt now ps).out.length ≤ ps.length * S := by
  have : ∀ (l : List (Int × Int)) (s : CSt), (l.foldl (combStep now) s).out.length ≤ s.out.length + l.length * S := by
    intro l
    induction l with
    | nil => intro s; simp
    | cons p l ih =>
      intro s
      rw [List.foldl_cons]
      have h1 := ih (combStep now s p)
      have h2 : (combStep now s p).out.length ≤ s.out.length + S := by
        unfold combStep
        split
        · rw [setTo_map_len]; omega
        · rw [List.length_append, List.length_map]; have := hS p.1; omega
      rw [List.length_cons, Nat.succ_mul]; omega
  have h := this ps ⟨[], [], 0, 0⟩
  simpa [combSt] using h
theorem spansBefore (now : Int → List Span) (ps : List (Int × Int)) : (combSt now ps).before = [] ∨ ∃ d, (combSt now ps).before = now d := by
  have : ∀ (l : List (Int × Int)) (s : CSt), (s.before = [] ∨ ∃ d, s.before = now d) → ((l.foldl (combStep now) s).before = [] ∨ ∃ d, (l.foldl (combStep now) s).before = now d) := by
    intro l
    induction l with
    | nil => intro s h; exact h
    | cons p l ih =>
      intro s h
      rw [List.foldl_cons]
      apply ih
      unfold combStep
      split
      · exact h
      · exact .inr ⟨p.1, rfl⟩
  exact this ps _ (.inl rfl)
/-- The first q of the regions from fr on end on another day. -/
def setRange (o : List Reg) (fr q : Nat) (t : Int) : List Reg := o.take fr ++ (((o.drop fr).take q).map (setTo t) ++ (o.drop fr).drop q)
theorem setRange_zero (o : List Reg) (fr : Nat) (t : Int) : setRange o fr 0 t = o := by unfold setRange; simp
theorem setRange_len (o : List Reg) (fr q : Nat) (t : Int) : (setRange o fr q t).length = o.length := by
  unfold setRange
  simp only [List.length_append, List.length_map, List.length_take, List.length_drop]
  omega
theorem setRange_all (o : List Reg) (fr q : Nat) (t : Int) (h : o.length - fr ≤ q) : setRange o fr q t = o.take fr ++ (o.drop fr).map (setTo t) := by
  unfold setRange
  have hl : (o.drop fr).length ≤ q := by rw [List.length_drop]; exact h
  rw [List.take_of_length_le hl, List.drop_of_length_le hl, List.append_nil]
theorem setRange_step (o : List Reg) (fr q : Nat) (t : Int) (hf : fr ≤ o.length) (h : q < o.length - fr) : ∃ r, (setRange o fr q t)[fr + q]? = some r ∧ setRange o fr (q + 1) t = (setRange o fr q t).set (fr + q) (setTo t r) := by
  have hq : q < (o.drop fr).length := by rw [List.length_drop]; exact h
  have hl1 : (o.take fr).length = fr := by rw [List.length_take]; omega
  have hl2 : (((o.drop fr).take q).map (setTo t)).length = q := by rw [List.length_map, List.length_take]; omega
  refine ⟨(o.drop fr)[q], ?_, ?_⟩
  · unfold setRange
    rw [List.getElem?_append_right (by omega), hl1, List.getElem?_append_right (by rw [hl2]; omega), hl2, List.getElem?_drop]
    rw [show q + (fr + q - fr - q) = q from by omega]
    exact List.getElem?_eq_getElem hq
  · unfold setRange
    rw [List.set_append_right _ _ (by omega), hl1, List.set_append_right _ _ (by rw [hl2]; omega), hl2, show fr + q - fr - q = 0 from by omega, List.take_succ_eq_append_getElem hq, List.map_append, List.append_assoc]
    rw [List.drop_eq_getElem_cons hq]
    rfl
def regsOf (p : Int × Int) (now : List Span) : List Reg := now.map fun q => ⟨p.1, p.2, q.1, q.2⟩
theorem regsTo_step {p : Int × Int} {now : List Span} {q : Nat} {s : Span} (h : now[q]? = some s) : (regsOf p now).take (q + 1) = (regsOf p now).take q ++ [⟨p.1, p.2, s.1, s.2⟩] := by
  have h' : (regsOf p now)[q]? = some ⟨p.1, p.2, s.1, s.2⟩ := by unfold regsOf; rw [List.getElem?_map, h]; rfl
  obtain ⟨hj, he⟩ := List.getElem?_eq_some_iff.1 h'
  rw [List.take_succ_eq_append_getElem hj, he]
theorem regsTo_len (p : Int × Int) (now : List Span) (q : Nat) (h : q ≤ now.length) : ((regsOf p now).take q).length = q := by
  unfold regsOf; rw [List.length_take, List.length_map]; omega
theorem grownTwo (w : World) (o o' : Obj) : w.grownBy ((w.alloc o).alloc o') none :=
  ⟨rfl, rfl, rfl, by simp; omega, fun i hi _ => (Below.heap_alloc _ _ i (by simp; omega)).trans (Below.heap_alloc _ _ i hi)⟩

structure CK where
  N : Nat
  M : Nat
  PO : Nat
  Bd : Nat
  va : Value
  vb : Value
  vc : Value
  vat : Value
  dv : Value
  at_ : List Int
  days : List Int
  w0 : World

/-- What lies in memory between two rounds. -/
structure CIx (K : CK) (st : CSt) (Ao : Option Addr) (co : Nat) (Ab : Option Addr) (cb : Nat) (W : World) : Prop where
  bA : Box W K.N 22 K.va
  bB : Box W (K.N + 1) 22 K.vb
  bC : Box W (K.N + 2) 55 K.vc
  bT : Box W K.M 69 K.vat
  oT : Own I1 1 3 W K.M K.vat K.at_
  lT : ∀ g, K.vat.ownBlock = some g → g < K.PO
  bO : Box W K.PO 22 (.slice Ao st.out.length co)
  oO : Own Reg.vals 4 35 W K.PO (.slice Ao st.out.length co) st.out
  bS : Box W (K.PO + 1) 101 (.slice Ab st.before.length cb)
  oS : Own S2 2 109 W K.PO (.slice Ab st.before.length cb) st.before
  bF : Box W (K.PO + 2) 3 (.int .i64 st.fr)
  bE : Box W (K.PO + 3) 23 (.int .i64 st.en)
  bD : Box W K.Bd 123 K.dv
  oD : Own I1 1 23 W (K.PO + 4) K.dv K.days
  lD : K.PO + 4 ≤ K.Bd
  o1 : K.N + 4 ≤ K.M
  o2 : K.M < K.PO
  bl : Below K.N K.w0 W
  sz : K.N ≤ K.w0.heap.size

theorem Box.notRow {w : World} {B : Nat} {t : TypeId} {v : Value} (h : Box w B t v) {g : Nat} {o : Obj} (hg : w.heap[g]? = some o) (ho : o.isCells = false) : some B ≠ some g := by
  rintro e
  injection e with e
  subst e
  unfold Box at h
  rw [h] at hg
  injection hg with hg
  subst hg
  cases ho
theorem Own.notRow {α : Type} {enc : α → List Value} {k base : Nat} {e : TypeId} {x : Value} {xs : List α} {w : World} (h : Own enc k e w base x xs) {g : Nat} {o : Obj} (hg : w.heap[g]? = some o) (ho : o.isCells = false) : x.ownBlock ≠ some g := by
  rcases h.2 with ⟨rfl, _⟩ | ⟨g', cap, cur, rfl, _, hg', _⟩
  · simp [Value.ownBlock]
  · intro hh
    simp only [Value.ownBlock, Option.some.injEq] at hh
    subst hh
    rw [hg'] at hg
    injection hg with hg
    subst hg
    cases ho

section
variable {K : CK} {st : CSt} {Ao Ab : Option Addr} {co cb : Nat} {W W' : World}
theorem CIx.frame {row : Option Nat} (h : CIx K st Ao co Ab cb W) (hg : W.grownBy W' row) (hr : ∀ r, row = some r → K.N ≤ r ∧ ∃ o : Obj, W.heap[r]? = some o ∧ o.isCells = false) : CIx K st Ao co Ab cb W' := by
  have hb : ∀ {B t v}, Box W B t v → Box W' B t v := fun hB => hB.grown hg (fun e => by
    obtain ⟨_, o, ho, hc⟩ := hr _ e.symm
    exact hB.notRow ho hc rfl)
  have hn : ∀ {v : Value}, (∀ g o, W.heap[g]? = some o → o.isCells = false → v.ownBlock ≠ some g) → v.ownBlock = none ∨ v.ownBlock ≠ row := fun hv => by
    cases row with
    | none => exact (Classical.em _).imp id (fun h => h)
    | some r => obtain ⟨_, o, ho, hc⟩ := hr r rfl; exact .inr (hv r o ho hc)
  exact ⟨hb h.bA, hb h.bB, hb h.bC, hb h.bT, h.oT.grown hg (hn fun g o a b => h.oT.notRow a b), h.lT, hb h.bO, h.oO.grown hg (hn fun g o a b => h.oO.notRow a b), hb h.bS, h.oS.grown hg (hn fun g o a b => h.oS.notRow a b), hb h.bF, hb h.bE, hb h.bD,
    h.oD.grown hg (hn fun g o a b => h.oD.notRow a b), h.lD, h.o1, h.o2, below_grown h.bl hg (Nat.le_trans h.sz h.bl.size) (fun g e => (hr g e).1), h.sz⟩
theorem CIx.quiet (h : CIx K st Ao co Ab cb W) (hg : W.grownBy W' none) : CIx K st Ao co Ab cb W' := h.frame hg (fun _ e => by cases e)
theorem grown_of_below (hb : Below W.heap.size W W') : W.grownBy W' none := ⟨hb.os, hb.tape, hb.output, hb.size, fun i hi _ => hb.block i hi⟩
theorem CIx.below (h : CIx K st Ao co Ab cb W) (hb : Below W.heap.size W W') : CIx K st Ao co Ab cb W' := h.quiet (grown_of_below hb)
theorem KeepD.grown {Bd : Nat} {v : Value} {row : Option Nat} (hD : Bd < W.heap.size) (hv : ∀ g, v.ownBlock = some g → g < W.heap.size) (hg : W.grownBy W' row) (h1 : some Bd ≠ row) (h2 : ∀ g, v.ownBlock = some g → some g ≠ row) : KeepD Bd v W W' :=
  ⟨hg.block Bd hD h1, fun g hg' => hg.block g (hv g hg') (h2 g hg')⟩

/-- What a round may do to what is not its own: nothing. -/
def Kept (K : CK) (B : Nat) (W W' : World) : Prop := KeepsFrom B W W' ∧ KeepD K.Bd K.dv W W'
theorem Kept.trans {B : Nat} {X Y Z : World} (h : Kept K B X Y) (h' : Kept K B Y Z) : Kept K B X Z := ⟨h.1.trans h'.1, h.2.trans h'.2⟩
theorem Kept.refl (B : Nat) (X : World) : Kept K B X X := ⟨KeepsFrom.refl B X, KeepD.refl X⟩
theorem CIx.dlt (h : CIx K st Ao co Ab cb W) : ∀ g, K.dv.ownBlock = some g → K.PO + 4 ≤ g ∧ g < W.heap.size := fun g e => World.ownsRow.lt h.oD g e
theorem CIx.kept_quiet (h : CIx K st Ao co Ab cb W) (B : Nat) (hg : W.grownBy W' none) : Kept K B W W' :=
  ⟨KeepsFrom.of_grownBy hg (fun _ e => by cases e), KeepD.grown h.bD.lt (fun g e => (h.dlt g e).2) hg (by simp) (fun _ _ => by simp)⟩
theorem CIx.kept_set (_ : CIx K st Ao co Ab cb W) (B : Nat) {p : Addr} {u : Value} (h1 : K.Bd ≠ p.block) (h2 : K.dv.ownBlock ≠ some p.block) : Kept K B W (W.setCell p u) :=
  ⟨(KeepsOthers.setCell W p u).from B, ⟨Below.heap_setCell W p u K.Bd h1, fun g e => Below.heap_setCell W p u g (fun e' => h2 (by rw [e, e']))⟩⟩

theorem CIx.setF (h : CIx K st Ao co Ab cb W) (B n : Nat) : CIx K { st with fr := n } Ao co Ab cb (W.setCell ⟨K.PO + 2, 0, none⟩ (.int .i64 n)) ∧ Kept K B W (W.setCell ⟨K.PO + 2, 0, none⟩ (.int .i64 n)) := by
  have o1 := h.o1; have o2 := h.o2; have lD := h.lD
  refine ⟨⟨h.bA.far (by simp; omega) _, h.bB.far (by simp; omega) _, h.bC.far (by simp; omega) _, h.bT.far (by simp; omega) _, h.oT.far (fun e => by have := h.lT _ e; simp at this; try omega) _, h.lT, h.bO.far (by simp) _, h.oO.far (fun e => h.oO.neBox h.bF (by decide) e.symm) _,
    h.bS.far (by simp) _, h.oS.far (fun e => h.oS.neBox h.bF (by decide) e.symm) _, h.bF.set_ _, h.bE.far (by simp) _, h.bD.far (by simp; omega) _, h.oD.far (fun e => by have := (h.dlt _ e).1; simp at this; try omega) _, h.lD, h.o1, h.o2,
    h.bl.setCell (p := ⟨K.PO + 2, 0, none⟩) (by simp; omega) _, h.sz⟩, ?_⟩
  exact h.kept_set B (by simp; omega) (fun e => by have := (h.dlt _ e).1; simp at this; try omega)
theorem CIx.setE (h : CIx K st Ao co Ab cb W) (B : Nat) (n : Int) : CIx K { st with en := n } Ao co Ab cb (W.setCell ⟨K.PO + 3, 0, none⟩ (.int .i64 n)) ∧ Kept K B W (W.setCell ⟨K.PO + 3, 0, none⟩ (.int .i64 n)) := by
  have o1 := h.o1; have o2 := h.o2; have lD := h.lD
  refine ⟨⟨h.bA.far (by simp; omega) _, h.bB.far (by simp; omega) _, h.bC.far (by simp; omega) _, h.bT.far (by simp; omega) _, h.oT.far (fun e => by have := h.lT _ e; simp at this; try omega) _, h.lT, h.bO.far (by simp) _, h.oO.far (fun e => h.oO.neBox h.bE (by decide) e.symm) _,
    h.bS.far (by simp) _, h.oS.far (fun e => h.oS.neBox h.bE (by decide) e.symm) _, h.bF.far (by simp) _, h.bE.set_ _, h.bD.far (by simp; omega) _, h.oD.far (fun e => by have := (h.dlt _ e).1; simp at this; try omega) _, h.lD, h.o1, h.o2,
    h.bl.setCell (p := ⟨K.PO + 3, 0, none⟩) (by simp; omega) _, h.sz⟩, ?_⟩
  exact h.kept_set B (by simp; omega) (fun e => by have := (h.dlt _ e).1; simp at this; try omega)
theorem CIx.setS (h : CIx K st Ao co Ab cb W) (B : Nat) {A2 : Option Addr} {c2 : Nat} {now : List Span} (ho : Own S2 2 109 W K.PO (.slice A2 now.length c2) now) :
    CIx K { st with before := now } Ao co A2 c2 (W.setCell ⟨K.PO + 1, 0, none⟩ (.slice A2 now.length c2)) ∧ Kept K B W (W.setCell ⟨K.PO + 1, 0, none⟩ (.slice A2 now.length c2)) := by
  have o1 := h.o1; have o2 := h.o2; have lD := h.lD
  refine ⟨⟨h.bA.far (by simp; omega) _, h.bB.far (by simp; omega) _, h.bC.far (by simp; omega) _, h.bT.far (by simp; omega) _, h.oT.far (fun e => by have := h.lT _ e; simp at this; try omega) _, h.lT, h.bO.far (by simp) _, h.oO.far (fun e => h.oO.neBox h.bS (by decide) e.symm) _,
    h.bS.set_ _, ho.far (fun e => ho.neBox h.bS (by decide) e.symm) _, h.bF.far (by simp) _, h.bE.far (by simp) _, h.bD.far (by simp; omega) _, h.oD.far (fun e => by have := (h.dlt _ e).1; simp at this; try omega) _, h.lD, h.o1, h.o2,
    h.bl.setCell (p := ⟨K.PO + 1, 0, none⟩) (by simp; omega) _, h.sz⟩, ?_⟩
  exact h.kept_set B (by simp; omega) (fun e => by have := (h.dlt _ e).1; simp at this; try omega)
/-- One more region behind the others: the row grows, then the variable is set. -/
theorem CIx.app (h : CIx K st Ao co Ab cb W) (B : Nat) {A2 : Option Addr} {n c2 : Nat} {out : List Reg} (hg : W.grownBy W' (Value.slice Ao st.out.length co).ownBlock) (ho : Own Reg.vals 4 35 W' K.PO (.slice A2 n c2) out) :
    Box W' K.PO 22 (.slice Ao st.out.length co) ∧ CIx K { st with out := out } A2 c2 Ab cb (W'.setCell ⟨K.PO, 0, none⟩ (.slice A2 n c2)) ∧ Kept K B W (W'.setCell ⟨K.PO, 0, none⟩ (.slice A2 n c2)) := by
  have o1 := h.o1; have o2 := h.o2; have lD := h.lD
  obtain rfl : n = out.length := ho.facts.1
  have hO' := h.bO.grown hg (h.oO.neBox h.bO (by decide))
  have hD' := h.bD.grown hg (h.oO.neBox h.bD (by decide))
  have hoD' := h.oD.grown hg (h.oD.ne h.oO (by decide))
  have dlt' : ∀ g, K.dv.ownBlock = some g → K.PO + 4 ≤ g := fun g e => (World.ownsRow.lt hoD' g e).1
  refine ⟨hO', ⟨(h.bA.grown hg (h.oO.neBox h.bA (by decide))).far (by simp; omega) _, (h.bB.grown hg (h.oO.neBox h.bB (by decide))).far (by simp; omega) _, (h.bC.grown hg (h.oO.neBox h.bC (by decide))).far (by simp; omega) _, (h.bT.grown hg (h.oO.neBox h.bT (by decide))).far (by simp; omega) _,
    (h.oT.grown hg (h.oT.ne h.oO (by decide))).far (fun e => by have := h.lT _ e; simp at this; try omega) _, h.lT, hO'.set_ _, ho.far (fun e => ho.neBox hO' (by decide) e.symm) _,
    (h.bS.grown hg (h.oO.neBox h.bS (by decide))).far (by simp) _, (h.oS.grown hg (h.oS.ne h.oO (by decide))).far (fun e => (h.oS.grown hg (h.oS.ne h.oO (by decide))).neBox hO' (by decide) e.symm) _, (h.bF.grown hg (h.oO.neBox h.bF (by decide))).far (by simp) _, (h.bE.grown hg (h.oO.neBox h.bE (by decide))).far (by simp) _,
    hD'.far (by simp; omega) _, hoD'.far (fun e => by have := dlt' _ e; simp at this; omega) _, h.lD, h.o1, h.o2,
    (below_grown h.bl hg (Nat.le_trans h.sz h.bl.size) (fun g e => by have := (World.ownsRow.lt h.oO g e).1; omega)).setCell (p := ⟨K.PO, 0, none⟩) (by simp; omega) _, h.sz⟩, ?_⟩
  have k1 : Kept K B W W' := ⟨(KeepsOthers.of_grownBy hg (fun j o e ho' => by
      rcases h.oO.2 with ⟨hv, _⟩ | ⟨g, cap, cur, hv, _, hgc, _⟩
      · rw [hv] at e; simp [Value.ownBlock] at e
      · rw [hv] at e; simp [Value.ownBlock] at e; subst e; rw [hgc] at ho'; injection ho' with ho'; subst ho'; rfl)).from B,
    KeepD.grown h.bD.lt (fun g e => (h.dlt g e).2) hg (h.oO.neBox h.bD (by decide)) (fun g e => by
      rcases h.oD.ne h.oO (by decide) with hn | hn
      · rw [hn] at e; cases e
      · rw [← e]; exact hn)⟩
  refine k1.trans ⟨(KeepsOthers.setCell W' _ _).from B, ⟨Below.heap_setCell W' _ _ K.Bd (by simp; omega), fun g e => Below.heap_setCell W' _ _ g (fun e' => by have := dlt' g e; simp at e'; omega)⟩⟩
/-- The end of one region's days is moved. -/
theorem CIx.setTo {g : Nat} (h : CIx K st (some ⟨g, 0, none⟩) co Ab cb W) (B i : Nat) {r : Reg} (t : Int) (hi : st.out[i]? = some r) :
    CIx K { st with out := st.out.set i (Proofs.YtiefdlfninhbgaaGreatDoor.setTo t r) } (some ⟨g, 0, none⟩) co Ab cb (W.setCell ⟨g, i * 4 + 1, none⟩ (.int .i64 t)) ∧ Kept K B W (W.setCell ⟨g, i * 4 + 1, none⟩ (.int .i64 t)) := by
  have o1 := h.o1; have o2 := h.o2; have lD := h.lD
  have hne : ∀ {B t v}, Box W B t v → 35 ≠ t → B ≠ g := fun hB ht e => h.oO.neBox hB ht (by rw [e]; rfl)
  have hno : ∀ {α : Type} {enc : α → List Value} {k base : Nat} {e : TypeId} {x : Value} {xs : List α}, Own enc k e W base x xs → e ≠ 35 → x.ownBlock ≠ some g := fun hO ht => by
    rcases hO.ne h.oO ht with hn | hn
    · rw [hn]; simp
    · exact hn
  have hset := h.oO.set_ Reg.vals_len (i := i) (j := 1) (x := r) (y := Proofs.YtiefdlfninhbgaaGreatDoor.setTo t r) (u := .int .i64 t) hi (by decide) rfl
  refine ⟨⟨h.bA.far (hne h.bA (by decide)) _, h.bB.far (hne h.bB (by decide)) _, h.bC.far (hne h.bC (by decide)) _, h.bT.far (hne h.bT (by decide)) _, h.oT.far (hno h.oT (by decide)) _, h.lT, ?_, ?_,
    h.bS.far (hne h.bS (by decide)) _, h.oS.far (hno h.oS (by decide)) _, h.bF.far (hne h.bF (by decide)) _, h.bE.far (hne h.bE (by decide)) _, h.bD.far (hne h.bD (by decide)) _, h.oD.far (hno h.oD (by decide)) _, h.lD, h.o1, h.o2,
    h.bl.setCell (p := ⟨g, i * 4 + 1, none⟩) (by have := (World.ownsRow.lt h.oO g rfl).1; simp; omega) _, h.sz⟩, h.kept_set B (hne h.bD (by decide)) (hno h.oD (by decide))⟩
  · simp only [List.length_set]; exact h.bO.far (hne h.bO (by decide)) _
  · simp only [List.length_set]; exact hset
end
end Go.Proofs.YtiefdlfninhbgaaGreatDoor
