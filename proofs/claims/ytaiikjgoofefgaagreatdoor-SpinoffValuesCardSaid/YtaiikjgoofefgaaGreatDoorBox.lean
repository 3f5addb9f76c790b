/- A variable in a block of its own (a captured variable). -/
import Derived.Test.YtaiikjgoofefgaaGreatDoorBase
namespace Go.Proofs.YtaiikjgoofefgaaGreatDoor
open Go.RowKit

def Box (w : World) (B : Nat) (t : TypeId) (v : Value) : Prop := w.heap[B]? = some (.cells #[v] t (0, 0))
section
variable {w w' : World} {B B' : Nat} {t t' : TypeId} {v u : Value}
theorem Box.lt (h : Box w B t v) : B < w.heap.size := (Array.getElem?_eq_some_iff.1 h).1
theorem Box.cell (h : Box w B t v) : w.cell? ⟨B, 0, none⟩ = some v := by
  have := cell_of_row w B 0 #[v] t (0, 0) h
  simpa using this
theorem Box.frozen (h : Box w B t v) : w.frozen? ⟨B, 0, none⟩ = false := by
  unfold Box at h
  simp [World.frozen?, h]
theorem Box.new (w : World) (t : TypeId) (v : Value) : Box (w.alloc (.cells #[v] t)) w.heap.size t v := heap_alloc_new w _
theorem Box.drew (h : Box w B t v) : Box w.drew B t v := h
theorem Box.drewN (h : Box w B t v) (n : Nat) : Box (w.drewN n) B t v := h
theorem Box.alloc (h : Box w B t v) (o : Obj) : Box (w.alloc o) B t v := (Below.heap_alloc w o B h.lt).trans h
theorem Box.set_ (h : Box w B t v) (u : Value) : Box (w.setCell ⟨B, 0, none⟩ u) B t u := by
  unfold Box at h ⊢
  simp [World.setCell, Array.getElem?_modify, h]
theorem Box.far (h : Box w B t v) {p : Addr} (hp : B ≠ p.block) (u : Value) : Box (w.setCell p u) B t v := (Below.heap_setCell w p u B hp).trans h
theorem Box.below {n : Nat} (h : Box w B t v) (hb : Below n w w') (hg : B < n) : Box w' B t v := (hb.block B hg).trans h
theorem Box.here (h : Box w B t v) (hb : Below w.heap.size w w') : Box w' B t v := h.below hb h.lt
theorem Box.grown {row : Option Nat} (h : Box w B t v) (hb : w.grownBy w' row) (hg : some B ≠ row) : Box w' B t v := (hb.block B h.lt hg).trans h
theorem Box.ne (h : Box w B t v) (h' : Box w B' t' u) (hne : t ≠ t') : B ≠ B' := by
  rintro rfl
  unfold Box at h h'
  rw [h] at h'
  injection h' with h'
  injection h' with _ ht
  exact hne ht
theorem Own.neBox {α : Type} {enc : α → List Value} {k base : Nat} {e : TypeId} {x : Value} {xs : List α} (h : Own enc k e w base x xs) (hb : Box w B t u) (hne : e ≠ t) : some B ≠ x.ownBlock := by
  rcases h.2 with ⟨rfl, _⟩ | ⟨g, cap, cur, rfl, _, hg, _⟩
  · simp [Value.ownBlock]
  · intro hh
    simp only [Value.ownBlock, Option.some.injEq] at hh
    subst hh
    unfold Box at hb
    rw [hg] at hb
    injection hb with hb
    injection hb with _ ht
    exact hne ht
end
end Go.Proofs.YtaiikjgoofefgaaGreatDoor
