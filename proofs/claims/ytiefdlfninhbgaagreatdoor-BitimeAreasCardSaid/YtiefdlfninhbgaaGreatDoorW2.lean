/- Contracts of has, ContainsFunc and IndexFunc. -/
import Derived.Test.YtiefdlfninhbgaaGreatDoorW1
import Derived.Shelf.Abstract
namespace Go.Proofs.YtiefdlfninhbgaaGreatDoor
open Go.RowKit Go.Shelf

/-- What is asked of a predicate on regions that may lay blocks of its own. -/
def Pred (g : Nat) (lb : Array Value) (p : Reg → Bool) (w : World) : Prop :=
  ∀ (W : World) (x : Reg), Below w.heap.size w W → Calls Tryz.prog g (#[x.val] ++ lb) W fun e w' => e = .returned (.bool (p x)) ∧ Below W.heap.size W w'

/-- The first place at which p holds, or -1. -/
def idxL (p : Reg → Bool) (xs : List Reg) : Int := match xs.findIdx? p with | some i => (i : Int) | none => -1
theorem idxL_hit {p : Reg → Bool} {xs : List Reg} {j : Nat} {r : Reg} (h : xs[j]? = some r) (hr : p r = true) (hn : (xs.take j).any p = false) : idxL p xs = j := by
  unfold idxL
  have : xs.findIdx? p = some j := by
    rw [List.findIdx?_eq_some_iff_getElem]
    obtain ⟨hj, rfl⟩ := List.getElem?_eq_some_iff.1 h
    refine ⟨hj, hr, fun i hi => ?_⟩
    rw [List.any_eq_false] at hn
    have := hn xs[i] (by rw [List.mem_take_iff_getElem]; exact ⟨i, by omega, rfl⟩)
    simpa using this
  rw [this]
theorem idxL_miss {p : Reg → Bool} {xs : List Reg} (hn : xs.any p = false) : idxL p xs = -1 := by
  unfold idxL
  have : xs.findIdx? p = none := by
    rw [List.findIdx?_eq_none_iff]; intro x hx; rw [List.any_eq_false] at hn; simpa using hn x hx
  rw [this]
theorem idxL_nonneg (p : Reg → Bool) (xs : List Reg) : decide (0 ≤ idxL p xs) = xs.any p := by
  cases h : xs.any p with
  | false => rw [idxL_miss h]; rfl
  | true =>
    rw [List.any_eq_true] at h
    obtain ⟨x, hx, hp⟩ := h
    unfold idxL
    cases hf : xs.findIdx? p with
    | none => rw [List.findIdx?_eq_none_iff] at hf; rw [hf x hx] at hp; cases hp
    | some i => simp
theorem any_step {p : Reg → Bool} {xs : List Reg} {j : Nat} {r : Reg} (h : xs[j]? = some r) (hn : (xs.take j).any p = false) (hr : p r = false) : (xs.take (j + 1)).any p = false := by
  obtain ⟨hj, rfl⟩ := List.getElem?_eq_some_iff.1 h
  rw [List.take_succ_eq_append_getElem hj, List.any_append, hn]; simp [hr]

set_option maxHeartbeats 400000 in
theorem indexFunc_any (g : Nat) (lb : Array Value) (p : Reg → Bool) (A : Option Addr) (n c : Nat) (xs : List Reg) (w : World) (eg : ∀ args w, (callFunc g args).run Tryz.prog w = .ok (.enter g args) w)
    (hp : Pred g lb p w) (hr : Rgs w w.heap.size A n xs) (hn : n ≤ 1000000000) :
    Calls Tryz.prog 56 #[.slice A n c, .func (.func g) #[] lb] w fun e w' => e = .returned (.int .i64 (idxL p xs)) ∧ Below w.heap.size w w' := by
  go_enter Tryz.func56, Tryz.ntmps56
  go_wp2
  go_loopw [5, 8] (fun _ i wr => ∃ j : Nat, j ≤ n ∧ i = .int .i64 j ∧ (xs.take j).any p = false ∧ Below w.heap.size w wr) (fun _ i _ => n - (intOf i).toNat)
  case atStart => exact ⟨0, Nat.zero_le _, rfl, by simp, Below.refl _ _⟩
  case round =>
    obtain ⟨j, hj, rfl, hno, hb⟩ := hrel
    by_cases hlt : j < n
    · obtain ⟨b, off, r, rfl, hbl, hxj, d0, d1, d2, d3⟩ := (hr.below hb).reg hlt
      have HX := Lib.hid hxj; clear hxj
      have HN := Lib.hid hno; clear hno
      have HR := Lib.hid hr; clear hr
      have hcall := hp wr r hb
      unfold Reg.val at hcall
      clear hp
      have HC := Lib.hid hcall; clear hcall
      cases hq : p r with
      | true =>
        rw [hq] at HC
        have HQ := Lib.hid hq; clear hq
        go_wp2_with (go_at_fn g; refine (HC.out).mono ?_; rintro e w' ⟨rfl, hb'⟩)
        go_ret
        exact ⟨ret_int (idxL_hit HX.out HQ.out HN.out).symm, hb.trans (hb'.mono hb.size)⟩
      | false =>
        rw [hq] at HC
        have HQ := Lib.hid hq; clear hq
        go_wp2_with (go_at_fn g; refine (HC.out).mono ?_; rintro e w' ⟨rfl, hb'⟩)
        go_roundw
        case rel => exact ⟨j + 1, by omega, by go_num, any_step HX.out HN.out HQ.out, hb.trans (hb'.mono hb.size)⟩
        case measure => simp [intOf]; omega
    · clear hp
      go_wp2
      go_ret
      exact ⟨ret_int (idxL_miss (by rw [← hno, take_all hr.1 (by omega)])).symm, hb⟩

theorem containsFunc_any (g : Nat) (lb : Array Value) (p : Reg → Bool) (A : Option Addr) (n c : Nat) (xs : List Reg) (w : World) (eg : ∀ args w, (callFunc g args).run Tryz.prog w = .ok (.enter g args) w)
    (hp : Pred g lb p w) (hr : Rgs w w.heap.size A n xs) (hn : n ≤ 1000000000) :
    Calls Tryz.prog 34 #[.slice A n c, .func (.func g) #[] lb] w fun e w' => e = .returned (.bool (xs.any p)) ∧ Below w.heap.size w w' := by
  have h := indexFunc_any g lb p A n c xs w eg hp hr hn
  have H := Lib.hid h; clear h hp eg
  have e := idxL_nonneg p xs
  generalize idxL p xs = z at *
  have E := Lib.hid e; clear e
  go_enter Tryz.func34, Tryz.ntmps34
  go_wp2_with (go_at_call 56; refine (H.out).mono ?_; rintro e w' ⟨rfl, hb'⟩)
  go_ret
  exact ⟨ret_bool E.out, hb'⟩

theorem has1_any (d k : Int) (r : Reg) (b1 b2 : Nat) (w : World) (h1 : b1 < w.heap.size) (h2 : b2 < w.heap.size) (c1 : w.cell? ⟨b1, 0, none⟩ = some (.int .i64 d)) (c2 : w.cell? ⟨b2, 0, none⟩ = some (.int .i64 k)) :
    Calls Tryz.prog 62 #[r.val, .pointer (some ⟨b1, 0, none⟩), .pointer (some ⟨b2, 0, none⟩)] w fun e w' => e = .returned (.bool (inR d k r)) ∧ Below w.heap.size w w' := by
  obtain ⟨x, y, z, t⟩ := r
  unfold Reg.val
  have n1 : b1 ≠ w.heap.size := by omega
  have n2 : b2 ≠ w.heap.size := by omega
  go_enter Tryz.func62, Tryz.ntmps62
  go_wp2
  all_goals
    go_ret
    exact ⟨ret_bool (by unfold inR; rw [Bool.eq_iff_iff]; simp; omega), (Below.refl _ _).alloc (Nat.le_refl _) _⟩

theorem has_any (A : Option Addr) (n c : Nat) (xs : List Reg) (d k : Int) (w : World) (hr : Rgs w w.heap.size A n xs) (hn : n ≤ 1000000000) :
    Calls Tryz.prog 44 #[.slice A n c, .int .i64 d, .int .i64 k] w fun e w' => e = .returned (.bool (hasL xs d k)) ∧ Below w.heap.size w w' := by
  have eg : ∀ args w, (callFunc 62 args).run Tryz.prog w = .ok (.enter 62 args) w := enters_of Tryz.func62 (by kernel_rfl) rfl
  have hb2 : Below w.heap.size w ((w.alloc (.cells #[.int .i64 d] 23)).alloc (.cells #[.int .i64 k] 3)) := ((Below.refl _ _).alloc (Nat.le_refl _) _).alloc (by simp) _
  have hc := containsFunc_any 62 #[.pointer (some ⟨w.heap.size, 0, none⟩), .pointer (some ⟨w.heap.size + 1, 0, none⟩)] (inR d k) A n c xs ((w.alloc (.cells #[.int .i64 d] 23)).alloc (.cells #[.int .i64 k] 3)) eg
    (fun W x hb => by
      refine has1_any d k x _ _ W ?_ ?_ ?_ ?_
      · have := hb.size; simp at this; omega
      · have := hb.size; simp at this; omega
      · rw [hb.cell (p := ⟨w.heap.size, 0, none⟩) (by simp; omega)]; simp
      · rw [hb.cell (p := ⟨w.heap.size + 1, 0, none⟩) (by simp)]; simp)
    ((hr.below hb2).more (by simp; omega)) hn
  change Calls _ _ _ _ fun e w' => e = .returned (.bool (hasL xs d k)) ∧ _ at hc
  have H := Lib.hid hc; clear hc eg
  generalize hasL xs d k = z at *
  go_enter Tryz.func44, Tryz.ntmps44
  go_wp2_with (go_at_call 34; refine (H.out).mono ?_; rintro e w' ⟨rfl, hb'⟩)
  go_ret
  exact ⟨rfl, hb2.trans (hb'.mono (by simp; omega))⟩

theorem Has_any (A : Option Addr) (n c : Nat) (xs : List Reg) (d k : Int) (w : World) (hr : Rgs w w.heap.size A n xs) (hn : n ≤ 1000000000) :
    Calls Tryz.prog 18 #[.slice A n c, .int .i64 d, .int .i64 k] w fun e w' => e = .returned (.bool (hasL xs d k)) ∧ Below w.heap.size w w' := by
  have H := Lib.hid (has_any A n c xs d k w hr hn)
  generalize hasL xs d k = z at *
  go_enter Tryz.func18, Tryz.ntmps18
  go_wp2_with (go_at_call 44; refine (H.out).mono ?_; rintro e w' ⟨rfl, hb'⟩)
  go_ret
  exact ⟨rfl, hb'⟩

end Go.Proofs.YtiefdlfninhbgaaGreatDoor
