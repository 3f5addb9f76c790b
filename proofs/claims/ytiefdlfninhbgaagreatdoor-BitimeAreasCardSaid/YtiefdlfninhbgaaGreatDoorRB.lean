/- A region in a block of its own. -/
import Derived.Test.YtiefdlfninhbgaaGreatDoorReg
namespace Go.Proofs.YtiefdlfninhbgaaGreatDoor
open Go.RowKit

def RegB (w : World) (p : Nat) (r : Reg) : Prop := w.heap[p]? = some (.cells #[.int .i64 r.fr, .int .i64 r.to, .int .i64 r.si, .int .i64 r.un] 35 (0, 0))
section
variable {w w' : World} {p q : Nat} {r : Reg}
theorem RegB.lt (h : RegB w p r) : p < w.heap.size := (Array.getElem?_eq_some_iff.1 h).1
theorem RegB.at_ (h : RegB w p r) (j : Nat) : w.cell? ⟨p, j, none⟩ = #[Value.int .i64 r.fr, .int .i64 r.to, .int .i64 r.si, .int .i64 r.un][j]? := cell_of_row w p j _ 35 (0, 0) h
theorem RegB.cells (h : RegB w p r) : w.cell? ⟨p, 0, none⟩ = some (.int .i64 r.fr) ∧ w.cell? ⟨p, 1, none⟩ = some (.int .i64 r.to) ∧ w.cell? ⟨p, 2, none⟩ = some (.int .i64 r.si) ∧ w.cell? ⟨p, 3, none⟩ = some (.int .i64 r.un) :=
  ⟨h.at_ 0, h.at_ 1, h.at_ 2, h.at_ 3⟩
theorem RegB.frozen (h : RegB w p r) (j : Nat) : w.frozen? ⟨p, j, none⟩ = false := by
  unfold RegB at h
  simp [World.frozen?, h]
theorem RegB.new (w : World) (r : Reg) : RegB (w.alloc (.cells #[.int .i64 r.fr, .int .i64 r.to, .int .i64 r.si, .int .i64 r.un] 35)) w.heap.size r := heap_alloc_new w _
theorem RegB.drew (h : RegB w p r) : RegB w.drew p r := h
theorem RegB.drewN (h : RegB w p r) (n : Nat) : RegB (w.drewN n) p r := h
theorem RegB.alloc (h : RegB w p r) (o : Obj) : RegB (w.alloc o) p r := (Below.heap_alloc w o p h.lt).trans h
theorem RegB.far (h : RegB w p r) {a : Addr} (hp : p ≠ a.block) (u : Value) : RegB (w.setCell a u) p r := (Below.heap_setCell w a u p hp).trans h
theorem RegB.below {n : Nat} (h : RegB w p r) (hb : Below n w w') (hg : p < n) : RegB w' p r := (hb.block p hg).trans h
theorem RegB.here (h : RegB w p r) (hb : Below w.heap.size w w') : RegB w' p r := h.below hb h.lt
theorem RegB.set_ (h : RegB w p r) (i : Nat) (v : Value) {s : Reg} (e : (#[Value.int .i64 r.fr, .int .i64 r.to, .int .i64 r.si, .int .i64 r.un] : Array Value).setIfInBounds i v = #[.int .i64 s.fr, .int .i64 s.to, .int .i64 s.si, .int .i64 s.un]) : RegB (w.setCell ⟨p, i, none⟩ v) p s := by
  unfold RegB at h ⊢
  rw [heap_setCell_same w p i _ 35 v h, e]
theorem RegB.new2 (w : World) (o : Obj) (r : Reg) : RegB ((w.alloc o).alloc (.cells #[.int .i64 r.fr, .int .i64 r.to, .int .i64 r.si, .int .i64 r.un] 35)) (w.heap.size + 1) r := by
  have := RegB.new (w.alloc o) r
  simpa using this
end
end Go.Proofs.YtiefdlfninhbgaaGreatDoor
