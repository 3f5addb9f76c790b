/- Contracts of the program's distinct, at int and at Day. -/
import Derived.Test.YtiefdlfninhbgaaGreatDoorShelf
import Derived.Test.YtiefdlfninhbgaaGreatDoorW2
import Derived.Sort.OwnSortedInts
namespace Go.Proofs.YtiefdlfninhbgaaGreatDoor
open Go.RowKit Go.Shelf Go.Sort

def sortL (xs : List Int) : List Int := xs.mergeSort fun x y => decide (x ≤ y)
def distL (xs : List Int) : List Int := Lib.compact (sortL xs)
theorem sortL_len (xs : List Int) : (sortL xs).length = xs.length := List.length_mergeSort xs
theorem compact_len {α : Type} [DecidableEq α] [Inhabited α] (zs : List α) : (Lib.compact zs).length ≤ zs.length := by
  unfold Lib.compact Lib.compactUpTo
  rw [List.length_map]
  exact Nat.le_trans (List.length_filter_le _ _) (by simp)
theorem distL_len (xs : List Int) : (distL xs).length ≤ xs.length := by unfold distL; have := compact_len (sortL xs); rw [sortL_len] at this; exact this
theorem flat_I1 (xs : List Int) : xs.flatMap I1 = xs.map (Value.int .i64) := by
  induction xs with
  | nil => rfl
  | cons a xs ih => rw [List.flatMap_cons, ih]; rfl

theorem distL_nil : distL [] = [] := by simp [distL, sortL, Lib.compact, Lib.compactUpTo]
theorem grown_twice {a b c : World} {row : Option Nat} (h : a.grownBy b row) (h' : b.grownBy c row) : a.grownBy c row :=
  ⟨h'.os.trans h.os, h'.tape.trans h.tape, h'.output.trans h.output, Nat.le_trans h.size h'.size, fun i hi hne => (h'.block i (Nat.lt_of_lt_of_le hi h.size) hne).trans (h.block i hi hne)⟩

/-- What a row holds is what the sort wants, and what it leaves. -/
theorem own_holds {w : World} {base g n c : Nat} {e : TypeId} {xs : List Int} (h : Own I1 1 e w base (.slice (some ⟨g, 0, none⟩) n c) xs) : Holds (Value.int .i64) w g 0 xs.toArray ∧
    ∀ (q : Nat) (os : Array Obj) (ts : List Int), ts.length = xs.length → Own I1 1 e (grow (putRow (Value.int .i64) (Sort.ahead w q) g 0 ts.toArray) os) base (.slice (some ⟨g, 0, none⟩) n c) ts := by
  have hn := h.facts.1
  subst hn
  rcases h.2 with ⟨h0, _⟩ | ⟨g', cap, cur, hv, hb, hg, hnc, hcm, hcs, ht⟩
  · cases h0
  · injection hv with a1 a2 a3
    injection a1 with a1
    injection a1 with a1
    subst a1; subst a3
    rw [flat_I1, Nat.mul_one] at ht
    refine ⟨holds_of_blockI hg ht, fun q os ts hl => ?_⟩
    show World.ownsRow _ _ _ _ _ ts.length (ts.flatMap I1)
    rw [flat_I1, hl]
    exact ownsRow_sortedI hl hb hg hnc hcm hcs

set_option maxHeartbeats 400000 in
theorem distinctI_any (base : Nat) (A : Option Addr) (c : Nat) (xs : List Int) (w : World) (ho : Own I1 1 3 w base (.slice A xs.length c) xs) (hl : xs.length ≤ 1000000000) :
    Calls Tryz.prog 76 #[.slice A xs.length c] w fun e w' => ∃ A' c', e = .returned (.slice A' (distL xs).length c') ∧ Own I1 1 3 w' base (.slice A' (distL xs).length c') (distL xs) ∧ w.grownBy w' (Value.slice A xs.length c).ownBlock := by
  by_cases h0 : xs.length = 0
  · obtain rfl : xs = [] := List.eq_nil_of_length_eq_zero h0
    have HO := Lib.hid ho; clear ho
    clear h0
    simp only [List.length_nil] at *
    go_enter Tryz.func76, Tryz.ntmps76
    go_wp2_with (first
      | (go_at_call 95; refine (Tryz.slices_Sort_int_none _ _ _).mono ?_; rintro e w' ⟨rfl, rfl⟩)
      | (go_at_call 96; refine (Tryz.slices_Compact_int_empty _ _ _).mono ?_; rintro e w' ⟨rfl, rfl⟩))
    go_ret
    rw [distL_nil]
    exact ⟨A, c, rfl, HO.out, World.grownBy.refl _ _⟩
  · obtain ⟨_, hc, hm, ⟨_, _, rfl⟩ | ⟨g, rfl, hg1, hg2⟩⟩ := ho.facts
    · simp at h0
    · obtain ⟨hH, hS⟩ := own_holds ho
      have HH := Lib.hid hH; have HS := Lib.hid hS; clear hH hS
      have HO := Lib.hid ho; clear ho
      have hsl := sortL_len xs
      have hdl := distL_len xs
      have HSL := Lib.hid hsl; clear hsl
      go_enter Tryz.func76, Tryz.ntmps76
      go_wp2_with fail
      refine (Tryz.slices_Sort_int g 0 c xs _ HH.out hg2 (by omega)).mono ?_
      rintro e w1 ⟨rfl, q1, os1, hw1⟩
      have ho1 := HS.out q1 os1 (sortL xs) HSL.out
      have hgr1 := grownBy_sortedI (w := w) (g := g) (n := q1) (os := os1) (sortL xs).toArray
      change w1 = grow (putRow (Value.int .i64) (Sort.ahead w q1) g 0 (sortL xs).toArray) os1 at hw1
      rw [← hw1] at ho1 hgr1
      have HW1 := Lib.hid hw1; clear hw1
      have hg3 : g < w1.heap.size := Nat.lt_of_lt_of_le hg2 hgr1.size
      obtain ⟨hH2, hS2⟩ := own_holds ho1
      have HH2 := Lib.hid hH2; have HS2 := Lib.hid hS2; clear hH2 hS2
      have HO1 := Lib.hid ho1; clear ho1
      have HG1 := Lib.hid hgr1; clear hgr1
      go_wp2_with fail
      rw [← HSL.out]
      refine (Tryz.slices_Compact_int g 0 c (sortL xs) _ HH2.out (by rw [HSL.out]; omega) (by rw [HSL.out]; exact hc)).mono ?_
      rintro e w2 ⟨rfl, q2, hw2⟩
      have hgr2 := grownBy_sortedI (w := w1) (g := g) (n := q2) (os := #[]) (Lib.compact (sortL xs) ++ List.replicate ((sortL xs).length - (Lib.compact (sortL xs)).length) 0).toArray
      have hcl := compact_len (sortL xs)
      have ho2 := HS2.out q2 #[] (Lib.compact (sortL xs) ++ List.replicate ((sortL xs).length - (Lib.compact (sortL xs)).length) 0) (by rw [List.length_append, List.length_replicate]; omega)
      rw [grow_empty] at hgr2 ho2
      rw [← hw2] at hgr2 ho2
      clear hw2
      have ho3 := ho2.shrink I1_len (m := (Lib.compact (sortL xs)).length) (by rw [List.length_append]; omega)
      rw [List.take_left] at ho3
      change Own _ _ _ _ _ (Value.slice _ (distL xs).length _) (distL xs) at ho3
      have HO3 := Lib.hid ho3; clear ho3 ho2
      have HG2 := Lib.hid hgr2; clear hgr2
      clear hcl
      go_wp2
      go_ret
      exact ⟨_, c, rfl, HO3.out, grown_twice HG1.out HG2.out⟩

theorem sortD_any (blk off cap : Nat) (zs : List Int) (w : World) (hH : Holds (Value.int .i64) w blk off zs.toArray) (hblk : blk < w.heap.size) (hsz : zs.length < 4611686018427387904) :
    Calls Tryz.prog 124 #[.slice (some ⟨blk, off, none⟩) zs.length cap] w fun e w' =>
      e = .returned (.tuple #[]) ∧ ∃ n os, w' = grow (putRow (Value.int .i64) (Sort.ahead w n) blk off (zs.mergeSort fun x y => decide (x ≤ y)).toArray) os := AnyM.slices_Sort_int Tryz.sortDay blk off cap zs w hH hblk hsz
theorem sortD_none (p : Option Addr) (cap : Nat) (w : World) : Calls Tryz.prog 124 #[.slice p 0 cap] w fun e w' => e = .returned (.tuple #[]) ∧ w' = w := AnyM.slices_Sort_int_none Tryz.sortDay p cap w
theorem compactD_any (blk off cap : Nat) (zs : List Int) (w : World) (hH : Holds (Value.int .i64) w blk off zs.toArray) (hsz : zs.length ≤ 9223372036854775807) (hcap : zs.length ≤ cap) :
    Calls Tryz.prog 125 #[.slice (some ⟨blk, off, none⟩) zs.length cap] w fun e w' => e = .returned (.slice (some ⟨blk, off, none⟩) (Lib.compact zs).length cap) ∧ ∃ q, w' = putRow (Value.int .i64) (Sort.ahead w q) blk off (Lib.compact zs ++ List.replicate (zs.length - (Lib.compact zs).length) 0).toArray :=
  AnyG.slices_Compact_int Tryz.compactDay blk off cap zs w hH hsz hcap
theorem compactD_empty (a : Option Addr) (cap : Nat) (w : World) : Calls Tryz.prog 125 #[.slice a 0 cap] w fun e w' => e = .returned (.slice a 0 cap) ∧ w' = w := AnyG.slices_Compact_int_empty Tryz.compactDay a cap w

set_option maxHeartbeats 400000 in
theorem distinctD_any (base : Nat) (A : Option Addr) (c : Nat) (xs : List Int) (w : World) (ho : Own I1 1 23 w base (.slice A xs.length c) xs) (hl : xs.length ≤ 1000000000) :
    Calls Tryz.prog 97 #[.slice A xs.length c] w fun e w' => ∃ A' c', e = .returned (.slice A' (distL xs).length c') ∧ Own I1 1 23 w' base (.slice A' (distL xs).length c') (distL xs) ∧ w.grownBy w' (Value.slice A xs.length c).ownBlock := by
  by_cases h0 : xs.length = 0
  · obtain rfl : xs = [] := List.eq_nil_of_length_eq_zero h0
    have HO := Lib.hid ho; clear ho
    clear h0
    simp only [List.length_nil] at *
    go_enter Tryz.func97, Tryz.ntmps97
    go_wp2_with (first
      | (go_at_call 124; refine (sortD_none _ _ _).mono ?_; rintro e w' ⟨rfl, rfl⟩)
      | (go_at_call 125; refine (compactD_empty _ _ _).mono ?_; rintro e w' ⟨rfl, rfl⟩))
    go_ret
    rw [distL_nil]
    exact ⟨A, c, rfl, HO.out, World.grownBy.refl _ _⟩
  · obtain ⟨_, hc, hm, ⟨_, _, rfl⟩ | ⟨g, rfl, hg1, hg2⟩⟩ := ho.facts
    · simp at h0
    · obtain ⟨hH, hS⟩ := own_holds ho
      have HH := Lib.hid hH; have HS := Lib.hid hS; clear hH hS
      have HO := Lib.hid ho; clear ho
      have hsl := sortL_len xs
      have hdl := distL_len xs
      have HSL := Lib.hid hsl; clear hsl
      go_enter Tryz.func97, Tryz.ntmps97
      go_wp2_with fail
      refine (sortD_any g 0 c xs _ HH.out hg2 (by omega)).mono ?_
      rintro e w1 ⟨rfl, q1, os1, hw1⟩
      have ho1 := HS.out q1 os1 (sortL xs) HSL.out
      have hgr1 := grownBy_sortedI (w := w) (g := g) (n := q1) (os := os1) (sortL xs).toArray
      change w1 = grow (putRow (Value.int .i64) (Sort.ahead w q1) g 0 (sortL xs).toArray) os1 at hw1
      rw [← hw1] at ho1 hgr1
      have HW1 := Lib.hid hw1; clear hw1
      have hg3 : g < w1.heap.size := Nat.lt_of_lt_of_le hg2 hgr1.size
      obtain ⟨hH2, hS2⟩ := own_holds ho1
      have HH2 := Lib.hid hH2; have HS2 := Lib.hid hS2; clear hH2 hS2
      have HO1 := Lib.hid ho1; clear ho1
      have HG1 := Lib.hid hgr1; clear hgr1
      go_wp2_with fail
      rw [← HSL.out]
      refine (compactD_any g 0 c (sortL xs) _ HH2.out (by rw [HSL.out]; omega) (by rw [HSL.out]; exact hc)).mono ?_
      rintro e w2 ⟨rfl, q2, hw2⟩
      have hgr2 := grownBy_sortedI (w := w1) (g := g) (n := q2) (os := #[]) (Lib.compact (sortL xs) ++ List.replicate ((sortL xs).length - (Lib.compact (sortL xs)).length) 0).toArray
      have hcl := compact_len (sortL xs)
      have ho2 := HS2.out q2 #[] (Lib.compact (sortL xs) ++ List.replicate ((sortL xs).length - (Lib.compact (sortL xs)).length) 0) (by rw [List.length_append, List.length_replicate]; omega)
      rw [grow_empty] at hgr2 ho2
      rw [← hw2] at hgr2 ho2
      clear hw2
      have ho3 := ho2.shrink I1_len (m := (Lib.compact (sortL xs)).length) (by rw [List.length_append]; omega)
      rw [List.take_left] at ho3
      change Own _ _ _ _ _ (Value.slice _ (distL xs).length _) (distL xs) at ho3
      have HO3 := Lib.hid ho3; clear ho3 ho2
      have HG2 := Lib.hid hgr2; clear hgr2
      clear hcl
      go_wp2
      go_ret
      exact ⟨_, c, rfl, HO3.out, grown_twice HG1.out HG2.out⟩

end Go.Proofs.YtiefdlfninhbgaaGreatDoor
