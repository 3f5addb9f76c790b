/- For BitimeAlgebra: sets in memory, the closure do, equality. -/
import Derived.Test.YtiefdlfninhbgaaGreatDoorLM
import Derived.Test.YtiefdlfninhbgaaGreatDoorBox
import Derived.Test.YtiefdlfninhbgaaGreatDoorAw
namespace Go.Proofs.YtiefdlfninhbgaaGreatDoor
open Go.RowKit Go.Shelf

theorem Box.same {w : World} {B : Nat} {t : TypeId} {v : Value} (h : Box w B t v) : w.setCell ⟨B, 0, none⟩ v = w := by
  unfold Box at h
  have e : (w.setCell ⟨B, 0, none⟩ v).heap = w.heap := by
    apply Array.ext_getElem?
    intro i
    by_cases hi : i = B
    · subst hi
      rw [heap_setCell_same w i 0 _ t v h, h]
      rfl
    · exact heap_setCell_other w _ i v hi
  have : w.setCell ⟨B, 0, none⟩ v = { w with heap := (w.setCell ⟨B, 0, none⟩ v).heap } := rfl
  rw [this, e]

/-- A slice that holds the normal form of a set over L. -/
def Rep (L : List Reg) (w : World) (f : Int → Int → Bool) (A : Option Addr) (n : Nat) : Prop := ∃ o, NS L f o ∧ Rgs w w.heap.size A n o
theorem Rep.here {L : List Reg} {w w' : World} {f : Int → Int → Bool} {A : Option Addr} {n : Nat} (h : Rep L w f A n) (hb : Below w.heap.size w w') : Rep L w' f A n := by
  obtain ⟨o, h1, h2⟩ := h
  exact ⟨o, h1, h2.here hb⟩
theorem Rep.le {L : List Reg} {w : World} {f : Int → Int → Bool} {A : Option Addr} {n : Nat} (hl : L.length ≤ 20) (h : Rep L w f A n) : n ≤ 400 := by
  obtain ⟨o, h1, h2⟩ := h
  rw [h2.1]; exact h1.1.small hl h1.2
theorem Rep.none {L : List Reg} {w : World} {f : Int → Int → Bool} {A : Option Addr} {n : Nat} (h : Rep L w f A n) (hf : ∀ d k, f d k = false) : n = 0 := by
  obtain ⟨o, h1, h2⟩ := h
  cases o with
  | nil => exact h2.1
  | cons r o =>
    obtain ⟨g1, g2, g3⟩ := h1.1.reg r (by simp)
    have := g3 r.fr r.si (by unfold inR; simp; omega)
    rw [hf] at this; cases this
structure Op2 (g : Nat) (cond : Bool → Bool → Bool) : Prop where
  zero : cond false false = false
  enters : ∀ args w, (callFunc g args).run Tryz.prog w = .ok (.enter g args) w
  calls : ∀ (Aa Ab : Option Addr) (na nb ca cb : Nat) (xs ys : List Reg) (w : World), Rgs w w.heap.size Aa na xs → Rgs w w.heap.size Ab nb ys → na ≤ 1000000000 → nb ≤ 1000000000 →
    Calls Tryz.prog g #[.slice Aa na ca, .slice Ab nb cb] w (RetOwn2 Reg.vals 4 35 w.heap.size w (pOper cond xs ys))
theorem op_unite : Op2 20 (fun x y => x || y) := ⟨rfl, enters_of Tryz.func20 (by kernel_rfl) rfl, Unite_any⟩
theorem op_minus : Op2 22 (fun x y => x && !y) := ⟨rfl, enters_of Tryz.func22 (by kernel_rfl) rfl, Minus_any⟩
theorem op_common : Op2 24 (fun x y => x && y) := ⟨rfl, enters_of Tryz.func24 (by kernel_rfl) rfl, Common_any⟩
def DoPost (L : List Reg) (f : Int → Int → Bool) (w : World) (e : Ending) (w' : World) : Prop := ∃ A n c, e = .returned (.slice A n c) ∧ Hid (Rep L w' f A n) ∧ Below w.heap.size w w'
theorem do_any {L : List Reg} (hl : L.length ≤ 20) (hv : ∀ r ∈ L, checkOne r = 0) (g : Nat) (cond : Bool → Bool → Bool) (hg : Op2 g cond) (Ax Ay : Option Addr) (nx ny cx cy : Nat) (f h : Int → Int → Bool) (bx : Nat) (w : World)
    (hx : Rep L w f Ax nx) (hy : Rep L w h Ay ny) (hB : Box w bx 4 (.bool true)) :
    Calls Tryz.prog 27 #[.func (.func g) #[] #[], .slice Ax nx cx, .slice Ay ny cy, .pointer (some ⟨bx, 0, none⟩)] w (DoPost L (fun d n => cond (f d n) (h d n)) w) := by
  have lx := hx.le hl
  have ly := hy.le hl
  obtain ⟨xs, n1, r1⟩ := hx
  obtain ⟨ys, n2, r2⟩ := hy
  obtain ⟨o, eo, no⟩ := NS.oper (cond := cond) hl hv hg.zero n1 n2
  have eg := hg.enters
  have HC := Lib.hid (hg.calls Ax Ay nx ny cx cy xs ys w r1 r2 (by omega) (by omega))
  rw [eo] at HC
  have HB := Lib.hid hB
  clear r1 r2 n1 n2 eo hB hg
  have HNO := Lib.hid no; clear no
  go_enter Tryz.func27, Tryz.ntmps27
  go_wp2_with fail
  refine HC.out.mono ?_
  rintro e w1 ⟨A1, c1, rfl, ho1, hb1⟩
  have hB1 := HB.out.here hb1
  have cb := hB1.cell
  have fb := hB1.frozen
  have HS := Lib.hid hB1.same
  have HB1 := Lib.hid hB1; clear hB1
  have HO1 := Lib.hid ho1; clear ho1
  go_wp2_with fail
  rw [HS.out]
  go_ret
  exact ⟨A1, o.length, c1, rfl, ⟨o, HNO.out, HO1.out.sl Reg.vals_len⟩, hb1⟩
theorem eq_rep {L : List Reg} (hl : L.length ≤ 20) (A A' : Option Addr) (n m c c' : Nat) (f f' : Int → Int → Bool) (w : World) (h : Rep L w f A n) (h' : Rep L w f' A' m) (he : ∀ d k, f d k = f' d k) :
    Calls Tryz.prog 17 #[.slice A n c, .slice A' m c'] w fun e w' => e = .returned (.bool true) ∧ Below w.heap.size w w' := by
  have l1 := h.le hl
  have l2 := h'.le hl
  obtain ⟨o, n1, r1⟩ := h
  obtain ⟨o', n2, r2⟩ := h'
  obtain rfl : f = f' := funext fun d => funext fun k => he d k
  obtain rfl : o = o' := n1.unique n2
  refine (equalR_any A A' n m c c' o o w r1 r2 (by omega) (by omega)).mono ?_
  rintro e w' ⟨rfl, z, rfl⟩
  exact ⟨by simp, bdN (Below.refl _ _) z⟩
end Go.Proofs.YtiefdlfninhbgaaGreatDoor
