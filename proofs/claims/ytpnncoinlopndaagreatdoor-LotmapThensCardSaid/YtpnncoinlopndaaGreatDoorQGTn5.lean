/- Merged texts: Box, Rf, Gc. -/
import Derived.Test.YtpnncoinlopndaaGreatDoorBaseqGTn
import Derived.RangeFuncNested
import Derived.RangeFuncCalls
import Derived.Test.YtpnncoinlopndaaGreatDoorQGTn4
import Derived.RangeFuncBound
import Derived.RangeFuncLeaves
import Derived.Shelf.Abstract
import Derived.Shelf.RegionOpen
import Derived.OwnWalkIn
import Derived.TacticsInMore
import Derived.LoopNIn
import Derived.LoopIn
import Derived.Stop.RegionWithIn
namespace Go.Proofs.YtpnncoinlopndaaGreatDoor
open Go.RowKit
def Box (w : World) (B : Nat) (t : TypeId) (v : Value) : Prop := w.heap[B]? = some (.cells #[v] t (0, 0))
section
variable {w w' : World} {B B' : Nat} {t t' : TypeId} {v u : Value}
theorem Box.lt (h : Box w B t v) : B < w.heap.size := (Array.getElem?_eq_some_iff.1 h).1
theorem Box.cell (h : Box w B t v) : w.cell? ⟨B, 0, none⟩ = some v := by
  have := cell_of_row w B 0 #[v] t (0, 0) h
  simpa using this
theorem Box.frozen (h : Box w B t v) : w.frozen? ⟨B, 0, none⟩ = false := by
  unfold Box at h
  simp [World.frozen?, h]
theorem Box.new (w : World) (t : TypeId) (v : Value) : Box (w.alloc (.cells #[v] t)) w.heap.size t v := heap_alloc_new w _
theorem Box.drew (h : Box w B t v) : Box w.drew B t v := h
theorem Box.drewN (h : Box w B t v) (n : Nat) : Box (w.drewN n) B t v := h
theorem Box.alloc (h : Box w B t v) (o : Obj) : Box (w.alloc o) B t v := (Below.heap_alloc w o B h.lt).trans h
theorem Box.set_ (h : Box w B t v) (u : Value) : Box (w.setCell ⟨B, 0, none⟩ u) B t u := by
  unfold Box at h ⊢
  simp [World.setCell, Array.getElem?_modify, h]
theorem Box.far (h : Box w B t v) {p : Addr} (hp : B ≠ p.block) (u : Value) : Box (w.setCell p u) B t v := (Below.heap_setCell w p u B hp).trans h
theorem Box.below {n : Nat} (h : Box w B t v) (hb : Below n w w') (hg : B < n) : Box w' B t v := (hb.block B hg).trans h
theorem Box.here (h : Box w B t v) (hb : Below w.heap.size w w') : Box w' B t v := h.below hb h.lt
theorem Box.grown {row : Option Nat} (h : Box w B t v) (hb : w.grownBy w' row) (hg : some B ≠ row) : Box w' B t v := (hb.block B h.lt hg).trans h
theorem Box.ne (h : Box w B t v) (h' : Box w B' t' u) (hne : t ≠ t') : B ≠ B' := by
  rintro rfl
  unfold Box at h h'
  rw [h] at h'
  injection h' with h'
  injection h' with _ ht
  exact hne ht
theorem Own.neBox {α : Type} {enc : α → List Value} {k base : Nat} {e : TypeId} {x : Value} {xs : List α} (h : Own enc k e w base x xs) (hb : Box w B t u) (hne : e ≠ t) : some B ≠ x.ownBlock := by
  rcases h.2 with ⟨rfl, _⟩ | ⟨g, cap, cur, rfl, _, hg, _⟩
  · simp [Value.ownBlock]
  · intro hh
    simp only [Value.ownBlock, Option.some.injEq] at hh
    subst hh
    unfold Box at hb
    rw [hg] at hb
    injection hb with hb
    injection hb with _ ht
    exact hne ht
end
end Go.Proofs.YtpnncoinlopndaaGreatDoor

namespace Go.Proofs.YtpnncoinlopndaaGreatDoor
open Go.RowKit
def Kp2 (p q : Nat) (W W' : World) : Prop := Below 0 W W' ∧ ∀ b, b < W.heap.size → b ≠ p → b ≠ q → W'.heap[b]? = W.heap[b]?
theorem Kp2.refl (p q : Nat) (W : World) : Kp2 p q W W := ⟨Below.refl _ _, fun _ _ _ _ => rfl⟩
theorem Kp2.size {p q : Nat} {A B : World} (h : Kp2 p q A B) : A.heap.size ≤ B.heap.size := h.1.size
theorem Kp2.trans {p q : Nat} {A B C : World} (h : Kp2 p q A B) (k : Kp2 p q B C) : Kp2 p q A C :=
  ⟨h.1.trans k.1, fun b hb h1 h2 => (k.2 b (Nat.lt_of_lt_of_le hb h.size) h1 h2).trans (h.2 b hb h1 h2)⟩
theorem Kp2.below {p q : Nat} {A B : World} (h : Below A.heap.size A B) : Kp2 p q A B := ⟨h.mono (Nat.zero_le _), fun b hb _ _ => h.block b hb⟩
theorem Kp2.set1 {p q : Nat} {A B : World} (h : Kp2 p q A B) (j : Nat) (u : Value) : Kp2 p q A (B.setCell ⟨p, j, none⟩ u) :=
  ⟨h.1.setCell (Nat.zero_le _) _, fun b hb h1 h2 => (Below.heap_setCell B ⟨p, j, none⟩ u b h1).trans (h.2 b hb h1 h2)⟩
theorem Kp2.set2 {p q : Nat} {A B : World} (h : Kp2 p q A B) (j : Nat) (u : Value) : Kp2 p q A (B.setCell ⟨q, j, none⟩ u) :=
  ⟨h.1.setCell (Nat.zero_le _) _, fun b hb h1 h2 => (Below.heap_setCell B ⟨q, j, none⟩ u b h2).trans (h.2 b hb h1 h2)⟩
theorem Kp2.put {p q : Nat} {A B : World} (h : Kp2 p q A B) (o : Obj) : Kp2 p q A (B.putObj q o) :=
  ⟨h.1.grown (grownBy_putObj' B q o) (Nat.zero_le _) (fun _ _ => Nat.zero_le _), fun b hb h1 h2 => (World.putObj_heap_other (by omega)).trans (h.2 b hb h1 h2)⟩
theorem Kp2.under {p q N : Nat} {A B C : World} (h : Kp2 p q B C) (hb : Below N A B) (hN : N ≤ B.heap.size) (hp : N ≤ p) (hq : N ≤ q) : Below N A C :=
  ⟨h.1.os.trans hb.os, h.1.tape.trans hb.tape, h.1.output.trans hb.output, Nat.le_trans hb.size h.size, fun b hb' => (h.2 b (by omega) (by omega) (by omega)).trans (hb.block b hb')⟩
theorem Kp2.drew {p q : Nat} {A B : World} (h : Kp2 p q A B) : Kp2 p q A B.drew := ⟨h.1.drew, h.2⟩
theorem Kp2.box {p q b : Nat} {t : TypeId} {v : Value} {A B : World} (h : Kp2 p q A B) (hb : Box A b t v) (h1 : b ≠ p) (h2 : b ≠ q) : Box B b t v := (h.2 b hb.lt h1 h2).trans hb
theorem wpIn_rangeFunc_last {F : Fence} {n : Nat} {P : Program} {g : Operand} {ps : Array Tmp} {assign body : Code} {Q : Exit → Act → World → Prop} {a : Act} {w : World}
    (hro : F.round = none) (h1 : 1 ≤ n) {gf : Nat} {lb : Array Value} (hg : a.eval g = .func (.func gf) #[] lb) (hFg : F.fn gf) (eg : ∀ args w, (callFunc gf args).run P w = .ok (.enter gf args) w)
    (po : Nat) (hpo : po < w.heap.size) (Ki : World → World → Prop) (T : Value → World → Prop)
    (hKi : ∀ A B, Ki A B → ∀ b, w.heap.size ≤ b → b < A.heap.size → B.heap[b]? = A.heap[b]?)
    (s0 : Value)
    (hseq : ∀ (l : Nat) (J : Value → World → Prop) (W : World), w.heap.size ≤ l → Below w.heap.size w W → (∀ s A B, J s A → Ki A B → J s B) → (∀ s A, J s A → ∃ r, A.heap[l]? = some (.loop r)) → (∀ s A, J s A → ∃ t v, Box A po t v ∧ (∃ B m c, v = .slice B m c)) →
      (∀ s B m c y W1, J s W1 → YieldAt F (n - 1 - 1) P l #[.slice B m c, y] W1 fun e W' => e = .returned (.bool true) ∧ J (.slice B m c) W' ∧ Kp2 po l W1 W') → J s0 W →
      CallsIn F (n - 1) P gf (#[.func (.yield l) #[] #[]] ++ lb) W fun e W' => (∃ v, e = .returned v) ∧ ∃ s, J s W' ∧ T s W')
    (hps : ps.size = 2)
    (I : Value → World → Prop) (hI : ∀ s A B, I s A → Ki A B → I s B) (hIb : ∀ s A, I s A → ∃ t v, Box A po t v ∧ (∃ B m c, v = .slice B m c)) (hIp : ∀ s A B l, w.heap.size ≤ l → I s A → Kp2 l l A B → I s B) (h0 : I s0 w)
    (ax : Value → Value → Act)
    (hassign : ∀ (l : Nat) (x y : Value) (W : World) (K : Act → World → Prop), K (ax x y) W →
      assign.wpIn (F.inRound l) (n - 1 - 1) P (Exit.then K (fun _ _ _ => False)) { tmps := (ps.zip #[x, y]).foldl (fun t (p, v) => t.setIfInBounds p v) a.tmps, defers := [] } W)
    (hbody : ∀ (l : Nat) (s : Value) (B : Option Addr) (m c : Nat) (y : Value) (W : World), w.heap.size ≤ l → I s W → body.wpIn (F.inRound l) (n - 1 - 1) P (fun e _ W' => e = .normal ∧ Kp2 po po W W' ∧ I (.slice B m c) W') (ax (.slice B m c) y) W)
    (hdone : ∀ (D : Nat) (s : Value) (W W0 : World), w.heap.size ≤ D → I s W → T s W0 → Kp2 (w.heap.size + 1) (w.heap.size + 1) W0 W → (∃ r, W0.heap[w.heap.size + 1]? = some (.loop r)) → W.heap[D]? = some (.deferred (some [])) → Q .normal { a with defers := { target := .collected D, args := #[] } :: a.defers } W) :
    (Code.rangeFunc g ps assign body).wpIn F n P Q a w := by
  refine wpIn_rangeFunc ?_
  intro fn hfn
  rw [hro]
  obtain ⟨rec, hrec⟩ : ∃ rec : LoopState → Option Code → Loop, rec = fun st pe => { state := st, pending := pe, fn, tmps := a.tmps, params := ps, assign, body, defers := w.heap.size } := ⟨_, rfl⟩
  obtain ⟨W1, hW1⟩ : ∃ W1, (w.alloc (.deferred (some []))).alloc (.loop (rec .ready none)) = W1 := ⟨_, rfl⟩
  have hL1 : W1.heap[w.heap.size + 1]? = some (.loop (rec .ready none)) := by
    rw [← hW1]; have := World.alloc_heap_new (w.alloc (.deferred (some []))) (.loop (rec .ready none)); rwa [World.size_alloc] at this
  have hK1 : W1.heap[w.heap.size]? = some (.deferred (some [])) := by
    rw [← hW1]; exact (Below.heap_alloc _ _ _ (by simp)).trans (World.alloc_heap_new w _)
  have hb1 : Below w.heap.size w W1 := by
    rw [← hW1]; exact ((Below.refl _ w).alloc (Nat.le_refl _) _).alloc (by simp) _
  have hI1 : I s0 W1 := hIp s0 w W1 w.heap.size (Nat.le_refl _) h0 (Kp2.below hb1)
  refine ⟨w.heap.size + 1, [{ target := .collected w.heap.size, args := #[] }], W1, { target := .fn (.func gf) lb, args := #[.func (.yield (w.heap.size + 1)) #[] #[]] }, W1, gf,
    #[.func (.yield (w.heap.size + 1)) #[] #[]] ++ lb, W1, ?_, ?_, ?_, ?_, fun _ => h1, ?_⟩
  · rw [← hW1, hrec]; exact run_enterLoop_outer _ _ _ _ _
  · simp only [resolve, hg]
    simp [go_sem]
  · intro f' hf'; simp [Target.leads] at hf'; subst hf'; exact hFg
  · simp [invoke, go_sem, eg]
  · refine (hseq (w.heap.size + 1)
      (fun s W => I s W ∧ W.heap[w.heap.size + 1]? = some (.loop (rec .ready none)) ∧ W.heap[w.heap.size]? = some (.deferred (some [])))
      W1 (by omega) hb1 ?_ (fun s A h => ⟨_, h.2.1⟩) (fun s A h => hIb s A h.1) ?_ ⟨hI1, hL1, hK1⟩).mono ?_
    · rintro s A B ⟨h, hl, hk⟩ hki
      exact ⟨hI s A B h hki, (hKi A B hki _ (by omega) (Array.getElem?_eq_some_iff.1 hl).1).trans hl, (hKi A B hki _ (Nat.le_refl _) (Array.getElem?_eq_some_iff.1 hk).1).trans hk⟩
    · rintro s B m c y W ⟨hi, hl, hk⟩
      have hlt : w.heap.size + 1 < W.heap.size := (Array.getElem?_eq_some_iff.1 hl).1
      have hy := run_yield (P := P) (args := #[.slice B m c, y]) hl (by rw [hrec]; exact hps.symm)
      rw [hrec] at hy
      refine ⟨fn, _, assign, body, hy, roundIn_of_wpIn hfn (hassign _ (.slice B m c) y W _ ?_)⟩
      clear hy
      refine ⟨_, run_beginRound hl (by rw [hrec]), ?_⟩
      have hl2 : (W.putObj (w.heap.size + 1) (.loop { rec .ready none with state := .busy })).heap[w.heap.size + 1]? = some (.loop { rec .ready none with state := .busy }) := World.putObj_heap_same hlt
      have hk2 : (W.putObj (w.heap.size + 1) (.loop { rec .ready none with state := .busy })).heap[w.heap.size]? = some (.deferred (some [])) := (World.putObj_heap_other (by omega)).trans hk
      have hkp : Kp2 (w.heap.size + 1) (w.heap.size + 1) W (W.putObj (w.heap.size + 1) (.loop { rec .ready none with state := .busy })) := (Kp2.refl _ _ _).put _
      have hi2 := hIp s _ _ _ (by omega) hi hkp
      refine wpIn_mono (hbody _ s B m c y _ (by omega) hi2) ?_
      rintro e a3 W3 ⟨rfl, hk3, hi3⟩
      have hl3 := (hk3.2 (w.heap.size + 1) (by simpa [World.putObj] using hlt) (by omega) (by omega)).trans hl2
      have hkk3 := (hk3.2 w.heap.size (by simp [World.putObj]; omega) (by omega) (by omega)).trans hk2
      have hr := run_endRound (P := P) none hl3
      refine ⟨_, _, hr, rfl, ⟨hIp _ _ _ _ (by omega) hi3 ((Kp2.refl (w.heap.size + 1) (w.heap.size + 1) W3).put _), ?_, ?_⟩, ?_⟩
      · rw [World.putObj_heap_same (Array.getElem?_eq_some_iff.1 hl3).1, hrec]; rfl
      · exact (World.putObj_heap_other (by omega)).trans hkk3
      · have e1 : Kp2 po (w.heap.size + 1) W (W.putObj (w.heap.size + 1) (.loop { rec .ready none with state := .busy })) := (Kp2.refl _ _ _).put _
        have e2 : Kp2 po (w.heap.size + 1) (W.putObj (w.heap.size + 1) (.loop { rec .ready none with state := .busy })) W3 := ⟨hk3.1, fun b hb hb1 _ => hk3.2 b hb hb1 hb1⟩
        exact (e1.trans e2).put _
    · rintro e W2 ⟨⟨v, rfl⟩, s, ⟨hi, hl, hk⟩, ht⟩
      refine ⟨none, _, by have := run_endLoop (P := P) hl (by rw [hrec]; simp); rw [hrec] at this; exact this, hdone _ s _ W2 (Nat.le_refl _) (hIp s _ _ _ (by omega) hi ((Kp2.refl (w.heap.size + 1) (w.heap.size + 1) W2).put _)) ht ((Kp2.refl (w.heap.size + 1) (w.heap.size + 1) W2).put _) ⟨_, hl⟩ ((World.putObj_heap_other (by omega)).trans hk)⟩
end Go.Proofs.YtpnncoinlopndaaGreatDoor

namespace Go.Proofs.YtpnncoinlopndaaGreatDoor
open Go.RowKit Go.Shelf
attribute [local go_sem] Oper.semAt_some
theorem Gr.unique {W : World} {B B' : Nat} {A : Option Addr} {n : Nat} {xs ys : List Nat} (h : Gr W B A n xs) (h' : Gr W B' A n ys) : xs = ys := by
  apply List.ext_getElem?
  intro i
  by_cases hi : i < n
  · obtain ⟨b, off, x, hA, _, hx, hc⟩ := h.grp hi
    obtain ⟨b', off', y, hA', _, hy, hc'⟩ := h'.grp hi
    rw [hA] at hA'
    injection hA' with e
    injection e with e1 e2
    subst e1; subst e2
    rw [hc] at hc'
    injection hc' with e
    injection e with _ e
    rw [hx, hy]
    congr 1
    omega
  · rw [List.getElem?_eq_none (by rw [← h.1]; omega), List.getElem?_eq_none (by rw [← h'.1]; omega)]
noncomputable def magAt (W : World) (p : Nat) : Nat := Classical.epsilon fun v => ∃ A n c ys, Box W p 142 (.slice A n c) ∧ Gr W W.heap.size A n ys ∧ Mag ys v
theorem magAt_eq {W : World} {p n c v : Nat} {A : Option Addr} {ys : List Nat} (hb : Box W p 142 (.slice A n c)) (hg : Gr W W.heap.size A n ys) (hm : Mag ys v) : magAt W p = v := by
  have h := Classical.epsilon_spec (p := fun v => ∃ A n c ys, Box W p 142 (.slice A n c) ∧ Gr W W.heap.size A n ys ∧ Mag ys v) ⟨v, A, n, c, ys, hb, hg, hm⟩
  obtain ⟨A', n', c', ys', hb', hg', hm'⟩ := h
  unfold Box at hb hb'
  rw [hb] at hb'
  simp only [Option.some.injEq, Obj.cells.injEq, and_true, Array.mk.injEq, List.cons.injEq, Value.slice.injEq] at hb'
  obtain ⟨rfl, rfl, rfl⟩ := hb'
  have := hg.unique hg'
  subst this
  unfold magAt
  rw [← hm'.val, hm.val]
theorem Gr.kp2 {W W' : World} {p q n : Nat} {A : Option Addr} {xs : List Nat} (h : Gr W W.heap.size A n xs) (hk : Kp2 p q W W') (hp : ∀ o x, W.cell? ⟨p, o, none⟩ ≠ some (.int .u64 x)) (hq : ∀ o x, W.cell? ⟨q, o, none⟩ ≠ some (.int .u64 x)) : Gr W' W'.heap.size A n xs := by
  refine Sl.more (B := W.heap.size) ⟨h.1, fun hn => ?_⟩ hk.size
  obtain ⟨b, off, e, hb, hc⟩ := h.2 hn
  obtain ⟨b', off', x0, e', _, _, hc0⟩ := h.grp (i := 0) hn
  rw [e] at e'
  injection e' with e'
  injection e' with e1 e2
  subst e1; subst e2
  refine ⟨b, off, e, hb, fun i x hi j u hj => ?_⟩
  have h1 : b ≠ p := fun e => hp _ _ (e ▸ hc0)
  have h2 : b ≠ q := fun e => hq _ _ (e ▸ hc0)
  have := hk.2 b hb h1 h2
  have hcell : W'.cell? ⟨b, off + i * 1 + j, none⟩ = W.cell? ⟨b, off + i * 1 + j, none⟩ := World.cell?_of_block this
  rw [hcell]
  exact hc i x hi j u hj
theorem Box.notU {W : World} {p : Nat} {t : TypeId} {A : Option Addr} {n c : Nat} (h : Box W p t (.slice A n c)) (o : Nat) (x : Int) : W.cell? ⟨p, o, none⟩ ≠ some (.int .u64 x) := by
  intro h2
  have := cell_of_row W p o #[.slice A n c] t (0, 0) h
  rw [this] at h2
  cases o with
  | zero => simp at h2
  | succ o => simp at h2
theorem loop_notU {W : World} {l : Nat} {r : Loop} (h : W.heap[l]? = some (.loop r)) (o : Nat) (x : Int) : W.cell? ⟨l, o, none⟩ ≠ some (.int .u64 x) := by
  intro h2
  unfold World.cell? at h2
  simp [h] at h2
structure EuSt (G pm pn : Nat) (A A' : Option Addr) (n c n' c' : Nat) (xs ys : List Nat) (u v : Nat) (W : World) : Prop where
  bm : Box W pm 142 (.slice A n c)
  bn : Box W pn 142 (.slice A' n' c')
  gm : Gr W W.heap.size A n xs
  gn : Gr W W.heap.size A' n' ys
  mm : Mag xs u
  mn : Mag ys v
  gcd : Nat.gcd u v = G
  lm : n ≤ 100000
  ln : n' ≤ 100000
  cm : n ≤ c
  cn : n' ≤ c'
def EuT (G : Nat) (s : Value) (W : World) : Prop := ∃ A n c zs, s = .slice A n c ∧ Gr W W.heap.size A n zs ∧ Mag zs G ∧ n ≤ c ∧ n ≤ 100000
theorem EuSt.kp2 {G pm pn p q : Nat} {A A' : Option Addr} {n c n' c' : Nat} {xs ys : List Nat} {u v : Nat} {W W' : World} (h : EuSt G pm pn A A' n c n' c' xs ys u v W) (hk : Kp2 p q W W') (hp : ∀ o x, W.cell? ⟨p, o, none⟩ ≠ some (.int .u64 x)) (hq : ∀ o x, W.cell? ⟨q, o, none⟩ ≠ some (.int .u64 x)) (h1 : pm ≠ p) (h2 : pm ≠ q) (h3 : pn ≠ p) (h4 : pn ≠ q) : EuSt G pm pn A A' n c n' c' xs ys u v W' :=
  ⟨hk.box h.bm h1 h2, hk.box h.bn h3 h4, h.gm.kp2 hk hp hq, h.gn.kp2 hk hp hq, h.mm, h.mn, h.gcd, h.lm, h.ln, h.cm, h.cn⟩
theorem EuSt.here {G pm pn : Nat} {A A' : Option Addr} {n c n' c' : Nat} {xs ys : List Nat} {u v : Nat} {W W' : World} (h : EuSt G pm pn A A' n c n' c' xs ys u v W) (hb : Below W.heap.size W W') : EuSt G pm pn A A' n c n' c' xs ys u v W' :=
  ⟨h.bm.here hb, h.bn.here hb, h.gm.here hb, h.gn.here hb, h.mm, h.mn, h.gcd, h.lm, h.ln, h.cm, h.cn⟩
set_option maxRecDepth 100000 in
set_option maxHeartbeats 1000000 in
theorem steps1_in (k : Nat) (hk : 1 ≤ k) (G l po pm pn : Nat) (J : Value → World → Prop) (h12 : pm ≠ pn) (h1o : pm ≠ po) (h1l : pm ≠ l) (h2o : pn ≠ po) (h2l : pn ≠ l)
    (hJi : ∀ s A B, J s A → Kp2 pm pn A B → J s B) (hJl : ∀ s A, J s A → ∃ r, A.heap[l]? = some (.loop r)) (hJb : ∀ s A, J s A → ∃ t v, Box A po t v ∧ (∃ B m c, v = .slice B m c))
    (hY : ∀ s B m c y W1, J s W1 → YieldAt Fence.wide (k - 1) Tryz.prog l #[.slice B m c, y] W1 fun e W' => e = .returned (.bool true) ∧ J (.slice B m c) W' ∧ Kp2 po l W1 W')
    (s0 : Value) (W : World) (h0 : J s0 W) (A A' : Option Addr) (n c n' c' : Nat) (xs ys : List Nat) (u v : Nat) (hE : EuSt G pm pn A A' n c n' c' xs ys u v W) :
    CallsIn Fence.wide k Tryz.prog 247 #[.func (.yield l) #[] #[], .pointer (some ⟨pm, 0, none⟩), .pointer (some ⟨pn, 0, none⟩)] W fun e W' => (∃ v, e = .returned v) ∧ ∃ s, J s W' ∧ EuT G s W' := by
  have HY := Lib.hid hY; have HJI := Lib.hid hJi; have HJL := Lib.hid hJl; have HJB := Lib.hid hJb; clear hY hJi hJl hJb
  refine callsIn_of_wp Tryz.func247 rfl trivial ?_ rfl
  simp only [Tryz.ntmps247, List.size_toArray, List.length_cons, List.length_nil, Nat.reduceAdd, Nat.reduceSub, Array.replicate_succ, Array.replicate_zero, List.push_toArray, List.append_toArray, List.nil_append, List.cons_append]
  gi_wp2
  gi_loopw [5] (fun _ wr => ∃ (s : Value) (A A' : Option Addr) (n c n' c' : Nat) (xs ys : List Nat) (u v : Nat), Hid (J s wr) ∧ Hid (EuSt G pm pn A A' n c n' c' xs ys u v wr)) (fun _ wr => magAt wr pn)
  case atStart => exact ⟨s0, A, A', n, c, n', c', xs, ys, u, v, h0, hE⟩
  case round =>
    clear h0 hE
    obtain ⟨s, A, A', n, c, n', c', xs, ys, u, v, HJ, HE⟩ := hrel
    have c1 := HE.out.bm.cell
    have c2 := HE.out.bn.cell
    obtain ⟨fn, tmps, assign, body, hy, hR⟩ := HY.out s A n c (.slice A' n' c') wr HJ.out
    have hR2 := hR.mono (R' := fun e W3 => e = .returned (.bool true) ∧ Hid (J (.slice A n c) W3 ∧ EuSt G pm pn A A' n c n' c' xs ys u v W3)) (fun e W3 h => by
      obtain ⟨he, hj, hkp⟩ := h
      obtain ⟨t, vv, hbx, B, m, cc, rfl⟩ := HJB.out _ _ HJ.out
      obtain ⟨r, hl⟩ := HJL.out _ _ HJ.out
      exact ⟨he, hj, HE.out.kp2 hkp (fun o x => hbx.notU o x) (fun o x => loop_notU hl o x) h1o h1l h2o h2l⟩)
    have HR := Lib.hid hR2; clear hR hR2
    have HMA := Lib.hid (magAt_eq HE.out.bn HE.out.gn HE.out.mn)
    gi_wp2_with fail
    refine HR.out.mono ?_
    rintro e W3 ⟨rfl, HQ⟩
    have HJ3 := Lib.hid HQ.out.1; have HE3 := Lib.hid HQ.out.2
    clear HQ hy HR c1 c2 HJ HE
    have c1 := HE3.out.bm.cell
    have c2 := HE3.out.bn.cell
    by_cases hv : v = 0
    · have hn0 : n' = 0 := by rw [HE3.out.gn.1, HE3.out.mn.nil_iff.2 hv]; rfl
      have hnd : decide (0 < n') = false := by simp [hn0]
      have HG := Lib.hid (show u = G by have := HE3.out.gcd; rw [hv, Nat.gcd_zero_right] at this; exact this)
      clear hn0
      gi_wp2_with fail
      go_end0
      exact ⟨⟨_, rfl⟩, _, HJ3.out, A, n, c, xs, rfl, HE3.out.gm, by rw [← HG.out]; exact HE3.out.mm, HE3.out.cm, HE3.out.lm⟩
    · have hn1 : 0 < n' := by
        rcases Nat.eq_zero_or_pos n' with h | h
        · exact absurd (HE3.out.mn.nil_iff.1 (List.eq_nil_of_length_eq_zero (by rw [← HE3.out.gn.1]; exact h))) hv
        · exact h
      have hnd : decide (0 < n') = true := by simpa using hn1
      have HDV := Lib.hid (divide_any A A' n n' c c' xs ys u v W3 HE3.out.gm HE3.out.gn HE3.out.mm HE3.out.mn HE3.out.lm HE3.out.ln HE3.out.cm (by omega))
      have f1 := HE3.out.bm.frozen
      have f2 := HE3.out.bn.frozen
      gi_wp2_with fail
      refine ⟨trivial, ?_⟩
      refine (callsIn_wide.2 HDV.out).mono ?_
      rintro e w4 ⟨A1, n1, c1', qs, A2, n2, c2', rs, rfl, hg1, hc1, mg1, hg2, hc2, mg2, hb4⟩
      have HE4 := Lib.hid (HE3.out.here hb4)
      have HG2 := Lib.hid hg2; have HM2 := Lib.hid mg2
      have HJ4 := Lib.hid (HJI.out _ _ _ HJ3.out (Kp2.below (p := pm) (q := pn) hb4))
      clear hg1 mg1 hg2 mg2 c1 c2 f1 f2 hc1 HDV
      have c1 := HE4.out.bm.cell
      have c2 := HE4.out.bn.cell
      have f1 := HE4.out.bm.frozen
      have f2 := HE4.out.bn.frozen
      gi_wp2_with fail
      have hW : Kp2 pm pn w4 ((w4.setCell ⟨pm, 0, none⟩ (.slice A' n' c')).setCell ⟨pn, 0, none⟩ (.slice A2 n2 c2')) := ((Kp2.refl pm pn w4).set1 0 _).set2 0 _
      have hE5 : EuSt G pm pn A' A2 n' c' n2 c2' ys rs v (u % v) ((w4.setCell ⟨pm, 0, none⟩ (.slice A' n' c')).setCell ⟨pn, 0, none⟩ (.slice A2 n2 c2')) := by
        refine ⟨(HE4.out.bm.set_ _).far (by exact h12) _, (HE4.out.bn.far (by exact fun e => h12 e.symm) _).set_ _, HE4.out.gn.kp2 hW (fun o x => HE4.out.bm.notU o x) (fun o x => HE4.out.bn.notU o x), HG2.out.kp2 hW (fun o x => HE4.out.bm.notU o x) (fun o x => HE4.out.bn.notU o x), HE4.out.mn, HM2.out, ?_, HE4.out.ln, ?_, HE4.out.cn, hc2⟩
        · rw [← HE4.out.gcd, Nat.gcd_comm v, ← Nat.gcd_rec, Nat.gcd_comm]
        · rw [HG2.out.1]
          refine Nat.le_trans (HM2.out.len (k := n') ?_) HE4.out.ln
          have h1 := Nat.mod_lt u (show 0 < v by omega)
          have h2 := gv_lt HE4.out.mn.gs
          rw [HE4.out.mn.val, ← HE4.out.gn.1] at h2
          omega
      go_roundw
      case rel => exact ⟨.slice A n c, A', A2, n', c', n2, c2', ys, rs, v, u % v, HJI.out _ _ _ HJ4.out hW, hE5⟩
      case measure =>
        rw [HMA.out, magAt_eq hE5.bn hE5.gn hE5.mn]
        exact Nat.mod_lt _ (by omega)
end Go.Proofs.YtpnncoinlopndaaGreatDoor

