/- Merged texts: Box, Rf. -/
import Derived.Test.YtaiikjgoofefgaaGreatDoorBase
import Derived.RangeFuncNested
import Derived.RangeFuncCalls
/- A variable in a block of its own (a captured variable). -/
namespace Go.Proofs.YtaiikjgoofefgaaGreatDoor
open Go.RowKit

def Box (w : World) (B : Nat) (t : TypeId) (v : Value) : Prop := w.heap[B]? = some (.cells #[v] t (0, 0))
section
variable {w w' : World} {B B' : Nat} {t t' : TypeId} {v u : Value}
theorem Box.lt (h : Box w B t v) : B < w.heap.size := (Array.getElem?_eq_some_iff.1 h).1
theorem Box.cell (h : Box w B t v) : w.cell? ⟨B, 0, none⟩ = some v := by
  have := cell_of_row w B 0 #[v] t (0, 0) h
  simpa using this
theorem Box.frozen (h : Box w B t v) : w.frozen? ⟨B, 0, none⟩ = false := by
  unfold Box at h
  simp [World.frozen?, h]
theorem Box.new (w : World) (t : TypeId) (v : Value) : Box (w.alloc (.cells #[v] t)) w.heap.size t v := heap_alloc_new w _
theorem Box.drew (h : Box w B t v) : Box w.drew B t v := h
theorem Box.drewN (h : Box w B t v) (n : Nat) : Box (w.drewN n) B t v := h
theorem Box.alloc (h : Box w B t v) (o : Obj) : Box (w.alloc o) B t v := (Below.heap_alloc w o B h.lt).trans h
theorem Box.set_ (h : Box w B t v) (u : Value) : Box (w.setCell ⟨B, 0, none⟩ u) B t u := by
  unfold Box at h ⊢
  simp [World.setCell, Array.getElem?_modify, h]
theorem Box.far (h : Box w B t v) {p : Addr} (hp : B ≠ p.block) (u : Value) : Box (w.setCell p u) B t v := (Below.heap_setCell w p u B hp).trans h
theorem Box.below {n : Nat} (h : Box w B t v) (hb : Below n w w') (hg : B < n) : Box w' B t v := (hb.block B hg).trans h
theorem Box.here (h : Box w B t v) (hb : Below w.heap.size w w') : Box w' B t v := h.below hb h.lt
theorem Box.grown {row : Option Nat} (h : Box w B t v) (hb : w.grownBy w' row) (hg : some B ≠ row) : Box w' B t v := (hb.block B h.lt hg).trans h
theorem Box.ne (h : Box w B t v) (h' : Box w B' t' u) (hne : t ≠ t') : B ≠ B' := by
  rintro rfl
  unfold Box at h h'
  rw [h] at h'
  injection h' with h'
  injection h' with _ ht
  exact hne ht
theorem Own.neBox {α : Type} {enc : α → List Value} {k base : Nat} {e : TypeId} {x : Value} {xs : List α} (h : Own enc k e w base x xs) (hb : Box w B t u) (hne : e ≠ t) : some B ≠ x.ownBlock := by
  rcases h.2 with ⟨rfl, _⟩ | ⟨g, cap, cur, rfl, _, hg, _⟩
  · simp [Value.ownBlock]
  · intro hh
    simp only [Value.ownBlock, Option.some.injEq] at hh
    subst hh
    unfold Box at hb
    rw [hg] at hb
    injection hb with hb
    injection hb with _ ht
    exact hne ht
end
end Go.Proofs.YtaiikjgoofefgaaGreatDoor
/- A range over a function whose iterator keeps its state in cells of its own; the body goes on always. The loop's state is told by the value that was yielded last. -/
namespace Go.Proofs.YtaiikjgoofefgaaGreatDoor
open Go.RowKit

/-- The blocks but p and q are as they were. -/
def Kp2 (p q : Nat) (W W' : World) : Prop := Below 0 W W' ∧ ∀ b, b < W.heap.size → b ≠ p → b ≠ q → W'.heap[b]? = W.heap[b]?
theorem Kp2.refl (p q : Nat) (W : World) : Kp2 p q W W := ⟨Below.refl _ _, fun _ _ _ _ => rfl⟩
theorem Kp2.size {p q : Nat} {A B : World} (h : Kp2 p q A B) : A.heap.size ≤ B.heap.size := h.1.size
theorem Kp2.trans {p q : Nat} {A B C : World} (h : Kp2 p q A B) (k : Kp2 p q B C) : Kp2 p q A C :=
  ⟨h.1.trans k.1, fun b hb h1 h2 => (k.2 b (Nat.lt_of_lt_of_le hb h.size) h1 h2).trans (h.2 b hb h1 h2)⟩
theorem Kp2.below {p q : Nat} {A B : World} (h : Below A.heap.size A B) : Kp2 p q A B := ⟨h.mono (Nat.zero_le _), fun b hb _ _ => h.block b hb⟩
theorem Kp2.set1 {p q : Nat} {A B : World} (h : Kp2 p q A B) (j : Nat) (u : Value) : Kp2 p q A (B.setCell ⟨p, j, none⟩ u) :=
  ⟨h.1.setCell (Nat.zero_le _) _, fun b hb h1 h2 => (Below.heap_setCell B ⟨p, j, none⟩ u b h1).trans (h.2 b hb h1 h2)⟩
theorem Kp2.set2 {p q : Nat} {A B : World} (h : Kp2 p q A B) (j : Nat) (u : Value) : Kp2 p q A (B.setCell ⟨q, j, none⟩ u) :=
  ⟨h.1.setCell (Nat.zero_le _) _, fun b hb h1 h2 => (Below.heap_setCell B ⟨q, j, none⟩ u b h2).trans (h.2 b hb h1 h2)⟩
theorem Kp2.put {p q : Nat} {A B : World} (h : Kp2 p q A B) (o : Obj) : Kp2 p q A (B.putObj q o) :=
  ⟨h.1.grown (grownBy_putObj' B q o) (Nat.zero_le _) (fun _ _ => Nat.zero_le _), fun b hb h1 h2 => (World.putObj_heap_other (by omega)).trans (h.2 b hb h1 h2)⟩
/-- What lies below both is as it was. -/
theorem Kp2.under {p q N : Nat} {A B C : World} (h : Kp2 p q B C) (hb : Below N A B) (hN : N ≤ B.heap.size) (hp : N ≤ p) (hq : N ≤ q) : Below N A C :=
  ⟨h.1.os.trans hb.os, h.1.tape.trans hb.tape, h.1.output.trans hb.output, Nat.le_trans hb.size h.size, fun b hb' => (h.2 b (by omega) (by omega) (by omega)).trans (hb.block b hb')⟩
theorem Kp2.drew {p q : Nat} {A B : World} (h : Kp2 p q A B) : Kp2 p q A B.drew := ⟨h.1.drew, h.2⟩
theorem Kp2.box {p q b : Nat} {t : TypeId} {v : Value} {A B : World} (h : Kp2 p q A B) (hb : Box A b t v) (h1 : b ≠ p) (h2 : b ≠ q) : Box B b t v := (h.2 b hb.lt h1 h2).trans hb

theorem wpIn_rangeFunc_last {F : Fence} {n : Nat} {P : Program} {g : Operand} {ps : Array Tmp} {assign body : Code} {Q : Exit → Act → World → Prop} {a : Act} {w : World}
    (hro : F.round = none) (h1 : 1 ≤ n) {gf : Nat} {lb : Array Value} (hg : a.eval g = .func (.func gf) #[] lb) (hFg : F.fn gf) (eg : ∀ args w, (callFunc gf args).run P w = .ok (.enter gf args) w)
    (po : Nat) (hpo : po < w.heap.size) (Ki : World → World → Prop) (T : Value → World → Prop)
    (hKi : ∀ A B, Ki A B → ∀ b, w.heap.size ≤ b → b < A.heap.size → B.heap[b]? = A.heap[b]?)
    (s0 : Value)
    (hseq : ∀ (l : Nat) (J : Value → World → Prop) (W : World), w.heap.size ≤ l → Below w.heap.size w W → (∀ s A B, J s A → Ki A B → J s B) → (∀ s A, J s A → ∃ r, A.heap[l]? = some (.loop r)) → (∀ s A, J s A → ∃ t v, Box A po t v ∧ (∃ B m c, v = .slice B m c)) →
      (∀ s B m c y W1, J s W1 → YieldAt F (n - 1 - 1) P l #[.slice B m c, y] W1 fun e W' => e = .returned (.bool true) ∧ J (.slice B m c) W' ∧ Kp2 po l W1 W') → J s0 W →
      CallsIn F (n - 1) P gf (#[.func (.yield l) #[] #[]] ++ lb) W fun e W' => (∃ v, e = .returned v) ∧ ∃ s, J s W' ∧ T s W')
    (hps : ps.size = 2)
    (I : Value → World → Prop) (hI : ∀ s A B, I s A → Ki A B → I s B) (hIb : ∀ s A, I s A → ∃ t v, Box A po t v ∧ (∃ B m c, v = .slice B m c)) (hIp : ∀ s A B l, w.heap.size ≤ l → I s A → Kp2 l l A B → I s B) (h0 : I s0 w)
    (ax : Value → Value → Act)
    (hassign : ∀ (l : Nat) (x y : Value) (W : World) (K : Act → World → Prop), K (ax x y) W →
      assign.wpIn (F.inRound l) (n - 1 - 1) P (Exit.then K (fun _ _ _ => False)) { tmps := (ps.zip #[x, y]).foldl (fun t (p, v) => t.setIfInBounds p v) a.tmps, defers := [] } W)
    (hbody : ∀ (l : Nat) (s : Value) (B : Option Addr) (m c : Nat) (y : Value) (W : World), w.heap.size ≤ l → I s W → body.wpIn (F.inRound l) (n - 1 - 1) P (fun e _ W' => e = .normal ∧ Kp2 po po W W' ∧ I (.slice B m c) W') (ax (.slice B m c) y) W)
    (hdone : ∀ (D : Nat) (s : Value) (W W0 : World), w.heap.size ≤ D → I s W → T s W0 → Kp2 (w.heap.size + 1) (w.heap.size + 1) W0 W → (∃ r, W0.heap[w.heap.size + 1]? = some (.loop r)) → W.heap[D]? = some (.deferred (some [])) → Q .normal { a with defers := { target := .collected D, args := #[] } :: a.defers } W) :
    (Code.rangeFunc g ps assign body).wpIn F n P Q a w := by
  refine wpIn_rangeFunc ?_
  intro fn hfn
  rw [hro]
  obtain ⟨rec, hrec⟩ : ∃ rec : LoopState → Option Code → Loop, rec = fun st pe => { state := st, pending := pe, fn, tmps := a.tmps, params := ps, assign, body, defers := w.heap.size } := ⟨_, rfl⟩
  obtain ⟨W1, hW1⟩ : ∃ W1, (w.alloc (.deferred (some []))).alloc (.loop (rec .ready none)) = W1 := ⟨_, rfl⟩
  have hL1 : W1.heap[w.heap.size + 1]? = some (.loop (rec .ready none)) := by
    rw [← hW1]; have := World.alloc_heap_new (w.alloc (.deferred (some []))) (.loop (rec .ready none)); rwa [World.size_alloc] at this
  have hK1 : W1.heap[w.heap.size]? = some (.deferred (some [])) := by
    rw [← hW1]; exact (Below.heap_alloc _ _ _ (by simp)).trans (World.alloc_heap_new w _)
  have hb1 : Below w.heap.size w W1 := by
    rw [← hW1]; exact ((Below.refl _ w).alloc (Nat.le_refl _) _).alloc (by simp) _
  have hI1 : I s0 W1 := hIp s0 w W1 w.heap.size (Nat.le_refl _) h0 (Kp2.below hb1)
  refine ⟨w.heap.size + 1, [{ target := .collected w.heap.size, args := #[] }], W1, { target := .fn (.func gf) lb, args := #[.func (.yield (w.heap.size + 1)) #[] #[]] }, W1, gf,
    #[.func (.yield (w.heap.size + 1)) #[] #[]] ++ lb, W1, ?_, ?_, ?_, ?_, fun _ => h1, ?_⟩
  · rw [← hW1, hrec]; exact run_enterLoop_outer _ _ _ _ _
  · simp only [resolve, hg]
    simp [go_sem]
  · intro f' hf'; simp [Target.leads] at hf'; subst hf'; exact hFg
  · simp [invoke, go_sem, eg]
  · refine (hseq (w.heap.size + 1)
      (fun s W => I s W ∧ W.heap[w.heap.size + 1]? = some (.loop (rec .ready none)) ∧ W.heap[w.heap.size]? = some (.deferred (some [])))
      W1 (by omega) hb1 ?_ (fun s A h => ⟨_, h.2.1⟩) (fun s A h => hIb s A h.1) ?_ ⟨hI1, hL1, hK1⟩).mono ?_
    · rintro s A B ⟨h, hl, hk⟩ hki
      exact ⟨hI s A B h hki, (hKi A B hki _ (by omega) (Array.getElem?_eq_some_iff.1 hl).1).trans hl, (hKi A B hki _ (Nat.le_refl _) (Array.getElem?_eq_some_iff.1 hk).1).trans hk⟩
    · rintro s B m c y W ⟨hi, hl, hk⟩
      have hlt : w.heap.size + 1 < W.heap.size := (Array.getElem?_eq_some_iff.1 hl).1
      have hy := run_yield (P := P) (args := #[.slice B m c, y]) hl (by rw [hrec]; exact hps.symm)
      rw [hrec] at hy
      refine ⟨fn, _, assign, body, hy, roundIn_of_wpIn hfn (hassign _ (.slice B m c) y W _ ?_)⟩
      clear hy
      refine ⟨_, run_beginRound hl (by rw [hrec]), ?_⟩
      have hl2 : (W.putObj (w.heap.size + 1) (.loop { rec .ready none with state := .busy })).heap[w.heap.size + 1]? = some (.loop { rec .ready none with state := .busy }) := World.putObj_heap_same hlt
      have hk2 : (W.putObj (w.heap.size + 1) (.loop { rec .ready none with state := .busy })).heap[w.heap.size]? = some (.deferred (some [])) := (World.putObj_heap_other (by omega)).trans hk
      have hkp : Kp2 (w.heap.size + 1) (w.heap.size + 1) W (W.putObj (w.heap.size + 1) (.loop { rec .ready none with state := .busy })) := (Kp2.refl _ _ _).put _
      have hi2 := hIp s _ _ _ (by omega) hi hkp
      refine wpIn_mono (hbody _ s B m c y _ (by omega) hi2) ?_
      rintro e a3 W3 ⟨rfl, hk3, hi3⟩
      have hl3 := (hk3.2 (w.heap.size + 1) (by simpa [World.putObj] using hlt) (by omega) (by omega)).trans hl2
      have hkk3 := (hk3.2 w.heap.size (by simp [World.putObj]; omega) (by omega) (by omega)).trans hk2
      have hr := run_endRound (P := P) none hl3
      refine ⟨_, _, hr, rfl, ⟨hIp _ _ _ _ (by omega) hi3 ((Kp2.refl (w.heap.size + 1) (w.heap.size + 1) W3).put _), ?_, ?_⟩, ?_⟩
      · rw [World.putObj_heap_same (Array.getElem?_eq_some_iff.1 hl3).1, hrec]; rfl
      · exact (World.putObj_heap_other (by omega)).trans hkk3
      · have e1 : Kp2 po (w.heap.size + 1) W (W.putObj (w.heap.size + 1) (.loop { rec .ready none with state := .busy })) := (Kp2.refl _ _ _).put _
        have e2 : Kp2 po (w.heap.size + 1) (W.putObj (w.heap.size + 1) (.loop { rec .ready none with state := .busy })) W3 := ⟨hk3.1, fun b hb hb1 _ => hk3.2 b hb hb1 hb1⟩
        exact (e1.trans e2).put _
    · rintro e W2 ⟨⟨v, rfl⟩, s, ⟨hi, hl, hk⟩, ht⟩
      refine ⟨none, _, by have := run_endLoop (P := P) hl (by rw [hrec]; simp); rw [hrec] at this; exact this, hdone _ s _ W2 (Nat.le_refl _) (hIp s _ _ _ (by omega) hi ((Kp2.refl (w.heap.size + 1) (w.heap.size + 1) W2).put _)) ht ((Kp2.refl (w.heap.size + 1) (w.heap.size + 1) W2).put _) ⟨_, hl⟩ ((World.putObj_heap_other (by omega)).trans hk)⟩
end Go.Proofs.YtaiikjgoofefgaaGreatDoor
