/- Contract of the program's bands. -/
import Derived.Test.YtiefdlfninhbgaaGreatDoorP2
import Derived.Test.YtiefdlfninhbgaaGreatDoorBox
namespace Go.Proofs.YtiefdlfninhbgaaGreatDoor
open Go.RowKit Go.Shelf

def daysOf (xs : List Reg) : List Int := xs.flatMap fun r => [r.fr, r.to]
theorem daysOf_step {xs : List Reg} {j : Nat} {r : Reg} (h : xs[j]? = some r) : daysOf (xs.take (j + 1)) = daysOf (xs.take j) ++ [r.fr, r.to] := by
  obtain ⟨hj, rfl⟩ := List.getElem?_eq_some_iff.1 h
  unfold daysOf; rw [List.take_succ_eq_append_getElem hj, List.flatMap_append]; simp
theorem daysOf_len (xs : List Reg) : (daysOf xs).length = 2 * xs.length := by
  unfold daysOf
  induction xs with
  | nil => rfl
  | cons a xs ih => rw [List.flatMap_cons, List.length_append, ih, List.length_cons]; simp; omega

/-- What bands gives: a function over the days, which lie in a box of its own. -/
def BandsPost (l : List Int) (w : World) (e : Ending) (w' : World) : Prop :=
  ∃ (Bd : Nat) (A : Option Addr) (c : Nat), e = .returned (.func (.func 98) #[] #[.pointer (some ⟨Bd, 0, none⟩)]) ∧ w.heap.size ≤ Bd ∧ Box w' Bd 123 (.slice A l.length c) ∧ Own I1 1 23 w' w.heap.size (.slice A l.length c) l ∧ Below w.heap.size w w'

set_option maxHeartbeats 1000000 in
theorem bands_any (A : Option Addr) (n c : Nat) (xs : List Reg) (w : World) (hr : Rgs w w.heap.size A n xs) (hn : n ≤ 100000000) :
    Calls Tryz.prog 77 #[.slice A n c] w (BandsPost (distL (daysOf xs)) w) := by
  have hnl := hr.1
  have HNL := Lib.hid hnl; clear hnl
  go_enter Tryz.func77, Tryz.ntmps77
  go_wp2
  go_loopw [5, 8] (fun _ i wr => ∃ (j : Nat) (A' : Option Addr) (c' m : Nat), j ≤ n ∧ i = .int .i64 j ∧ m ≤ 2 * j ∧ Box wr w.heap.size 123 (.slice A' m c') ∧ Own I1 1 23 wr w.heap.size (.slice A' m c') (daysOf (xs.take j)) ∧ Below w.heap.size w wr) (fun _ i _ => n - (intOf i).toNat)
  case atStart => exact ⟨0, none, 0, 0, Nat.zero_le _, rfl, Nat.zero_le _, Box.new w _ _, Own.nil, (Below.refl _ _).alloc (Nat.le_refl _) _⟩
  case round =>
    obtain ⟨j, A', c', m, hj, rfl, hm, hbx, ho, hb⟩ := hrel
    by_cases hlt : j < n
    · obtain ⟨b, off, r, rfl, hbl, hxj, d0, d1, d2, d3⟩ := (hr.below hb).reg hlt
      have HST := Lib.hid (daysOf_step hxj)
      generalize daysOf (xs.take j) = l at *
      obtain ⟨rfl, _, _, hAo⟩ := ho.facts
      have HAo := Lib.hid hAo; have HO := Lib.hid ho; have HBX := Lib.hid hbx; have HR := Lib.hid hr; clear hAo ho hbx hr hxj
      have hbc := HBX.out.cell
      have hlt3 : w.heap.size < wr.heap.size := HBX.out.lt
      have hne : w.heap.size ≠ wr.heap.size := by omega
      go_wp2_with (at_builtin; refine wpList_app _ rfl (.tmp 12) (.tmp 17) _ rfl elemDays I1_len I1_one (base := w.heap.size) (.slice A' l.length c') l rfl ((HO.out.alloc _).alloc _) _ _ 2 2 [r.fr, r.to] rfl (by have := Sl.lit (enc := I1) (k := 1) (wr.alloc (.cells #[.int .i64 r.fr, .int .i64 r.to, .int .i64 r.si, .int .i64 r.un] 35)) #[.int .i64 r.fr, .int .i64 r.to] 23 [r.fr, r.to] rfl I1_len; simp only [World.size_alloc] at this; exact this) (by omega) (by have := hb.size; simp; omega) ?_; intro A4 c4 w4 ho4 hg4 hat4; have hbx4 := (((HBX.out.alloc _).alloc _).grown hg4 (HO.out.neBox HBX.out (by decide))); have hc4 := hbx4.cell; have hf4 := hbx4.frozen)
      go_roundw
      case rel =>
        refine ⟨j + 1, A4, c4, l.length + 2, by omega, by go_num, by omega, hbx4.set_ _, ?_, ?_⟩
        · rw [HST.out]
          exact ho4.far (fun h => ho4.neBox hbx4 (by decide) h.symm) _
        · refine (below_grown ((hb.alloc hb.size _).alloc (by have := hb.size; simp; omega) _) hg4 (by have := hb.size; simp; omega) (fun g' e => ?_)).setCell (p := ⟨w.heap.size, 0, none⟩) (Nat.le_refl _) _
          rcases HAo.out with ⟨rfl, _⟩ | ⟨g, rfl, hg1, hg2⟩
          · simp [Value.ownBlock] at e
          · simp [Value.ownBlock] at e; omega
      case measure => simp [intOf]; omega
    · have hdl := daysOf_len xs
      rw [take_all hr.1 (by omega)] at ho
      have hxn : xs.length ≤ n := by rw [← HNL.out]; exact Nat.le_refl _
      have hdl2 : (daysOf xs).length ≤ 200000000 := by omega
      clear hdl
      generalize daysOf xs = l at *
      obtain ⟨rfl, _, _, hAo⟩ := ho.facts
      have HAo := Lib.hid hAo; have HO := Lib.hid ho; have HBX := Lib.hid hbx; have HR := Lib.hid hr; clear hAo ho hbx hr
      have hbc := HBX.out.cell
      have HD := Lib.hid (distinctD_any w.heap.size A' c' l wr HO.out (by omega))
      go_wp2_with (go_at_call 97; refine HD.out.mono ?_; rintro e w1 ⟨A1, c1, rfl, ho1, hg1⟩; have hbx1 := HBX.out.grown hg1 (HO.out.neBox HBX.out (by decide)); have hc1 := hbx1.cell; have hf1 := hbx1.frozen)
      go_ret
      refine ⟨w.heap.size, A1, c1, rfl, Nat.le_refl _, hbx1.set_ _, ho1.far (fun h => ho1.neBox hbx1 (by decide) h.symm) _, (below_grown hb hg1 hb.size (fun g' e => ?_)).setCell (p := ⟨w.heap.size, 0, none⟩) (Nat.le_refl _) _⟩
      rcases HAo.out with ⟨rfl, _⟩ | ⟨g, rfl, hg1, hg2⟩
      · simp [Value.ownBlock] at e
      · simp [Value.ownBlock] at e; omega
end Go.Proofs.YtiefdlfninhbgaaGreatDoor
