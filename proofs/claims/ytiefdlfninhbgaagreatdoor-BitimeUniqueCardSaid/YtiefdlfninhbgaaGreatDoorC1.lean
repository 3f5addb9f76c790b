/- Contracts of slices.Clone and slices.Reverse over regions. -/
import Derived.Test.YtiefdlfninhbgaaGreatDoorReg
import Derived.Deep.RegionWith
import Derived.Lib.LazyBuf
namespace Go.Proofs.YtiefdlfninhbgaaGreatDoor
open Go.RowKit

set_option maxRecDepth 10000 in
theorem cloneR_any (b off n c : Nat) (xs : List Reg) (w : World) (hr : Rgs w w.heap.size (some ⟨b, off, none⟩) n xs) (hn : n ≤ 1000) :
    Calls Tryz.prog 28 #[.slice (some ⟨b, off, none⟩) n c] w (RetOwn Reg.vals 4 35 w.heap.size w xs) := by
  have HR := Lib.hid (hr.alloc (Nat.le_refl _) (.cells #[] 35)); clear hr
  have hnil : (binOp .eql 22 (.slice (some ⟨b, off, none⟩) n c) (.slice none 0 0)).run Tryz.prog w = .ok (.bool false) w := run_eql_slice_nil w 22 35 _ n c Tryz.underlying22
  go_enter Tryz.func28, Tryz.ntmps28
  go_wp2_with (at_builtin; refine wpList_app _ rfl (.tmp 5) (.tmp 6) _ rfl elemRegs Reg.vals_len Reg.vals_one (base := w.heap.size) (.slice (some ⟨w.heap.size, 0, none⟩) 0 0) [] rfl (Own.lit w #[] 35 [] rfl Reg.vals_len (Nat.le_refl _) (by simp)) _ _ n c xs rfl HR.out (by simp; omega) (by simp) ?_
               intro A3 c3 w3 ho3 hg3 _
               rw [List.length_nil, Nat.zero_add] at ho3 ⊢
               rw [List.nil_append] at ho3
               have hb3 : Below w.heap.size w w3 := below_grown ((Below.refl _ _).alloc (Nat.le_refl _) _) hg3 (by simp) (fun g e => by simp [Value.ownBlock] at e; omega)
               have HO3 := Lib.hid ho3; clear ho3 hg3)
  go_ret
  exact RetOwn.mk rfl HO3.out hb3

/-- A store of a whole region into a row of the call's own. -/
theorem Own.setR {w : World} {base g n c i : Nat} {x y : Reg} {xs : List Reg} (h : Own Reg.vals 4 35 w base (.slice (some ⟨g, 0, none⟩) n c) xs) (hi : xs[i]? = some x) :
    Own Reg.vals 4 35 ((((w.setCell ⟨g, i * 4, none⟩ (.int .i64 y.fr)).setCell ⟨g, i * 4 + 1, none⟩ (.int .i64 y.to)).setCell ⟨g, i * 4 + 2, none⟩ (.int .i64 y.si)).setCell ⟨g, i * 4 + 3, none⟩ (.int .i64 y.un)) base (.slice (some ⟨g, 0, none⟩) n c) (xs.set i y) := by
  have hl := (List.getElem?_eq_some_iff.1 hi).1
  have h0 := h.set_ Reg.vals_len (i := i) (j := 0) (y := ⟨y.fr, x.to, x.si, x.un⟩) (u := .int .i64 y.fr) hi (by decide) rfl
  have h1 := h0.set_ Reg.vals_len (i := i) (j := 1) (x := ⟨y.fr, x.to, x.si, x.un⟩) (y := ⟨y.fr, y.to, x.si, x.un⟩) (u := .int .i64 y.to) (by simp [hl]) (by decide) rfl
  have h2 := h1.set_ Reg.vals_len (i := i) (j := 2) (x := ⟨y.fr, y.to, x.si, x.un⟩) (y := ⟨y.fr, y.to, y.si, x.un⟩) (u := .int .i64 y.si) (by simp [hl]) (by decide) rfl
  have h3 := h2.set_ Reg.vals_len (i := i) (j := 3) (x := ⟨y.fr, y.to, y.si, x.un⟩) (y := y) (u := .int .i64 y.un) (by simp [hl]) (by decide) rfl
  simpa using h3
/-- The list after i exchanges of the two ends. -/
def revTo (xs : List Reg) (i : Nat) : List Reg := (List.range xs.length).map fun p => if p < i ∨ xs.length - i ≤ p then xs.getD (xs.length - 1 - p) default else xs.getD p default
theorem revTo_len (xs : List Reg) (i : Nat) : (revTo xs i).length = xs.length := by simp [revTo]
theorem revTo_at (xs : List Reg) (i p : Nat) (hp : p < xs.length) : (revTo xs i)[p]? = some (if p < i ∨ xs.length - i ≤ p then xs.getD (xs.length - 1 - p) default else xs.getD p default) := by
  unfold revTo
  rw [List.getElem?_map, List.getElem?_range hp]; rfl
theorem revTo_zero (xs : List Reg) : revTo xs 0 = xs := by
  apply List.ext_getElem?
  intro p
  by_cases hp : p < xs.length
  · rw [revTo_at xs 0 p hp, if_neg (by omega)]; simp [hp]
  · rw [List.getElem?_eq_none (by rw [revTo_len]; omega), List.getElem?_eq_none (by omega)]
theorem revTo_all (xs : List Reg) (i : Nat) (hi : xs.length ≤ 2 * i + 1) : revTo xs i = xs.reverse := by
  apply List.ext_getElem?
  intro p
  by_cases hp : p < xs.length
  · rw [revTo_at xs i p hp, List.getElem?_reverse hp]
    have hq : xs.length - 1 - p < xs.length := by omega
    split
    · simp [List.getD, List.getElem?_eq_getElem hq]
    · have e : xs.length - 1 - p = p := by omega
      rw [e]; simp [List.getD, List.getElem?_eq_getElem hp]
  · rw [List.getElem?_eq_none (by rw [revTo_len]; omega), List.getElem?_eq_none (by simp; omega)]
theorem revTo_step (xs : List Reg) (i : Nat) (hi : 2 * i + 1 < xs.length) {x y : Reg} (hx : (revTo xs i)[i]? = some x) (hy : (revTo xs i)[xs.length - 1 - i]? = some y) :
    ((revTo xs i).set i y).set (xs.length - 1 - i) x = revTo xs (i + 1) ∧ ((revTo xs i).set (xs.length - 1 - i) x).set i y = revTo xs (i + 1) := by
  have key : ((revTo xs i).set i y).set (xs.length - 1 - i) x = revTo xs (i + 1) := by
    rw [revTo_at xs i i (by omega), if_neg (by omega), Option.some.injEq] at hx
    rw [revTo_at xs i _ (by omega), if_neg (by omega), Option.some.injEq] at hy
    apply List.ext_getElem?
    intro p
    by_cases hp : p < xs.length
    · rw [revTo_at xs (i + 1) p hp, List.getElem?_set, List.getElem?_set]
      by_cases h1 : xs.length - 1 - i = p
      · rw [if_pos h1, if_pos (by rw [List.length_set, revTo_len]; omega), if_pos (by omega), ← hx]
        congr 2; omega
      · rw [if_neg h1]
        by_cases h2 : i = p
        · rw [if_pos h2, if_pos (by rw [revTo_len]; omega), if_pos (by omega), ← hy]
          congr 2; omega
        · rw [if_neg h2, revTo_at xs i p hp]
          by_cases h3 : p < i ∨ xs.length - i ≤ p
          · rw [if_pos h3, if_pos (by omega)]
          · rw [if_neg h3, if_neg (by omega)]
    · rw [List.getElem?_eq_none (by rw [List.length_set, List.length_set, revTo_len]; omega), List.getElem?_eq_none (by rw [revTo_len]; omega)]
  refine ⟨key, ?_⟩
  rw [← key, List.set_comm _ _ (by omega)]

set_option maxHeartbeats 2000000 in
theorem reverseR_any (base g n c : Nat) (xs : List Reg) (w : World) (ho : Own Reg.vals 4 35 w base (.slice (some ⟨g, 0, none⟩) n c) xs) (hn : n ≤ 1000) :
    Calls Tryz.prog 29 #[.slice (some ⟨g, 0, none⟩) n c] w fun e w' => e = .returned (.tuple #[]) ∧ Own Reg.vals 4 35 w' base (.slice (some ⟨g, 0, none⟩) n c) xs.reverse ∧ Below base w w' := by
  have HNL := Lib.hid ho.facts.1
  have hgb : base ≤ g := by
    rcases ho.facts.2.2.2 with ⟨h, _⟩ | ⟨g', h, hb, _⟩
    · cases h
    · injection h with h; injection h with h; omega
  have HO := Lib.hid ho; clear ho
  go_enter Tryz.func29, Tryz.ntmps29
  go_wp2
  go_loopw [2, 3] (fun a b wr => ∃ (i : Nat) (j : Int), a = .int .i64 i ∧ b = .int .i64 j ∧ Hid (j = (n : Int) - 1 - (i : Int)) ∧ Hid (2 * i ≤ n + 1) ∧ Hid (Own Reg.vals 4 35 wr base (.slice (some ⟨g, 0, none⟩) n c) (revTo xs i)) ∧ Below base w wr) (fun a _ _ => n - (intOf a).toNat)
  case atStart => exact ⟨0, (n : Int) - 1, rfl, rfl, by show _ = _; omega, by show _ ≤ _; omega, by rw [revTo_zero]; exact HO.out, Below.refl _ _⟩
  case round =>
    obtain ⟨i, j, rfl, rfl, HJ, HI, HOI, hb⟩ := hrel
    by_cases hlt : (i : Int) < j
    · have hj0 : j = ((n - 1 - i : Nat) : Int) := by have := HJ.out; omega
      have h2i : 2 * i + 1 < n := by have := HJ.out; omega
      subst hj0
      obtain ⟨b1, o1, x, e1, _, hx, x0, x1, x2, x3⟩ := (HOI.out.sl Reg.vals_len).reg (i := i) (by omega)
      obtain ⟨b2, o2, y, e2, _, hy, y0, y1, y2, y3⟩ := (HOI.out.sl Reg.vals_len).reg (i := n - 1 - i) (by omega)
      injection e1 with e1
      injection e1 with e11 e12
      subst e11; subst e12
      injection e2 with e2
      injection e2 with e21 e22
      subst e21; subst e22
      have hf : ∀ q, wr.frozen? ⟨g, q, none⟩ = false := fun q => HOI.out.frozen q
      have f0 := hf (0 + i * 4); have f1 := hf (0 + i * 4 + 1); have f2 := hf (0 + i * 4 + 2); have f3 := hf (0 + i * 4 + 3)
      have k0 := hf (0 + (n - 1 - i) * 4); have k1 := hf (0 + (n - 1 - i) * 4 + 1); have k2 := hf (0 + (n - 1 - i) * 4 + 2); have k3 := hf (0 + (n - 1 - i) * 4 + 3)
      clear hf
      simp only [Nat.zero_add] at x0 x1 x2 x3 y0 y1 y2 y3 f0 f1 f2 f3 k0 k1 k2 k3
      have hne : i < n - 1 - i := by omega
      generalize hjj : n - 1 - i = jj at *
      have hjn : jj < n := by omega
      have hin : i < n := by omega
      go_wp2
      go_region
      all_goals
        go_wp2
        go_roundw
        case rel =>
          have hO := (HOI.out.setR (y := y) hx)
          have hL := (revTo_step xs i (by rw [← HNL.out]; omega) hx (by rw [← HNL.out]; rw [← hjj] at hy; exact hy)).1
          have hO2 := hO.setR (i := jj) (x := y) (y := x) (by rw [List.getElem?_set_ne (by omega)]; exact hy)
          rw [show xs.length - 1 - i = jj by rw [← HNL.out]; exact hjj] at hL
          rw [hL] at hO2
          refine ⟨i + 1, (jj : Int) - 1, by go_num, rfl, ?_, ?_, ?_, ?_⟩
          · show _ = _; have := HJ.out; omega
          · show _ ≤ _; omega
          · show Own _ _ _ _ _ _ _
            with_reducible exact hO2.drew
          · with_reducible exact ((((((((hb.setCell hgb _).setCell hgb _).setCell hgb _).setCell hgb _).setCell hgb _).setCell hgb _).setCell hgb _).setCell hgb _).drew
        case measure => simp [intOf]; omega
    · go_wp2
      go_end0
      refine ⟨rfl, ?_, hb⟩
      rw [← revTo_all xs i (by have := HJ.out; have := HNL.out; omega)]
      exact HOI.out
end Go.Proofs.YtiefdlfninhbgaaGreatDoor
