/- Contracts of slices.ContainsFunc and slices.IndexFunc over fractions. -/
import Derived.Test.YtaiikjgoofefgaaGreatDoorFp6
import Derived.Shelf.Abstract
namespace Go.Proofs.YtaiikjgoofefgaaGreatDoor
open Go.RowKit Go.Shelf

def F2 (f : Fr) : List Value := [S f.n, S f.d]
theorem F2_len (f : Fr) : (F2 f).length = 2 := rfl
abbrev Frs (w : World) (B : Nat) (A : Option Addr) (n : Nat) (xs : List Fr) : Prop := Sl F2 2 w B A n xs
theorem Sl.fr {w : World} {B : Nat} {A : Option Addr} {n : Nat} {xs : List Fr} {i : Nat} (h : Frs w B A n xs) (hi : i < n) :
    ∃ b off x, A = some ⟨b, off, none⟩ ∧ b < B ∧ xs[i]? = some x ∧ w.cell? ⟨b, off + i * 2, none⟩ = some (.string ⟨x.n.toArray⟩) ∧ w.cell? ⟨b, off + i * 2 + 1, none⟩ = some (.string ⟨x.d.toArray⟩) := by
  obtain ⟨b, off, x, hA, hb, hx, hc⟩ := h.at_ hi
  exact ⟨b, off, x, hA, hb, hx, hc 0 _ rfl, hc 1 _ rfl⟩
/-- The first place at which p holds, or -1. -/
def idxF (p : Fr → Bool) (xs : List Fr) : Int := match xs.findIdx? p with | some i => (i : Int) | none => -1
theorem idxF_hit {p : Fr → Bool} {xs : List Fr} {j : Nat} {r : Fr} (h : xs[j]? = some r) (hr : p r = true) (hn : (xs.take j).any p = false) : idxF p xs = j := by
  unfold idxF
  have : xs.findIdx? p = some j := by
    rw [List.findIdx?_eq_some_iff_getElem]
    obtain ⟨hj, rfl⟩ := List.getElem?_eq_some_iff.1 h
    refine ⟨hj, hr, fun i hi => ?_⟩
    rw [List.any_eq_false] at hn
    have := hn xs[i] (by rw [List.mem_take_iff_getElem]; exact ⟨i, by omega, rfl⟩)
    simpa using this
  rw [this]
theorem idxF_miss {p : Fr → Bool} {xs : List Fr} (hn : xs.any p = false) : idxF p xs = -1 := by
  unfold idxF
  have : xs.findIdx? p = none := by
    rw [List.findIdx?_eq_none_iff]; intro x hx; rw [List.any_eq_false] at hn; simpa using hn x hx
  rw [this]
theorem idxF_nonneg (p : Fr → Bool) (xs : List Fr) : decide (0 ≤ idxF p xs) = xs.any p := by
  cases h : xs.any p with
  | false => rw [idxF_miss h]; rfl
  | true =>
    rw [List.any_eq_true] at h
    obtain ⟨x, hx, hp⟩ := h
    unfold idxF
    cases hf : xs.findIdx? p with
    | none => rw [List.findIdx?_eq_none_iff] at hf; rw [hf x hx] at hp; cases hp
    | some i => simp
theorem anyF_step {p : Fr → Bool} {xs : List Fr} {j : Nat} {r : Fr} (h : xs[j]? = some r) (hn : (xs.take j).any p = false) (hr : p r = false) : (xs.take (j + 1)).any p = false := by
  obtain ⟨hj, rfl⟩ := List.getElem?_eq_some_iff.1 h
  rw [List.take_succ_eq_append_getElem hj, List.any_append, hn]; simp [hr]
set_option maxHeartbeats 400000 in
theorem indexF_any (g : Nat) (p : Fr → Bool) (A : Option Addr) (n c : Nat) (xs : List Fr) (w : World) (eg : ∀ args w, (callFunc g args).run Tryz.prog w = .ok (.enter g args) w)
    (hp : ∀ (W : World) (x : Fr), x ∈ xs → Below w.heap.size w W → Calls Tryz.prog g #[FrV x] W fun e w' => e = .returned (.bool (p x)) ∧ Below W.heap.size W w') (hr : Frs w w.heap.size A n xs) (hn : n ≤ 1000000000) :
    Calls Tryz.prog 31 #[.slice A n c, .func (.func g) #[] #[]] w fun e w' => e = .returned (.int .i64 (idxF p xs)) ∧ Below w.heap.size w w' := by
  have HPR := Lib.hid hp; have HR := Lib.hid hr
  clear hp hr
  go_enter Tryz.func31, Tryz.ntmps31
  go_wp2
  go_loopw [5, 8] (fun _ i wr => ∃ j : Nat, j ≤ n ∧ i = .int .i64 j ∧ Hid ((xs.take j).any p = false) ∧ Below w.heap.size w wr) (fun _ i _ => n - (intOf i).toNat)
  case atStart => exact ⟨0, Nat.zero_le _, rfl, by show _ = _; simp, Below.refl _ _⟩
  case round =>
    obtain ⟨j, hj, rfl, HN, hb⟩ := hrel
    by_cases hlt : j < n
    · obtain ⟨b, off, r, rfl, hbl, hxj, d0, d1⟩ := (HR.out.below hb).fr hlt
      have HX := Lib.hid hxj
      have hcall := HPR.out wr r (List.mem_of_getElem? hxj) hb
      unfold FrV S at hcall
      clear hxj
      have HC := Lib.hid hcall; clear hcall
      cases hq : p r with
      | true =>
        rw [hq] at HC
        have HQ := Lib.hid hq; clear hq
        go_wp2_with (go_at_fn g; refine (HC.out).mono ?_; rintro e w' ⟨rfl, hb'⟩)
        go_ret
        exact ⟨ret_int (idxF_hit HX.out HQ.out HN.out).symm, hb.trans (hb'.mono hb.size)⟩
      | false =>
        rw [hq] at HC
        have HQ := Lib.hid hq; clear hq
        go_wp2_with (go_at_fn g; refine (HC.out).mono ?_; rintro e w' ⟨rfl, hb'⟩)
        go_roundw
        case rel => exact ⟨j + 1, by omega, by go_num, anyF_step HX.out HN.out HQ.out, hb.trans (hb'.mono hb.size)⟩
        case measure => simp [intOf]; omega
    · go_wp2
      go_ret
      exact ⟨ret_int (idxF_miss (by have := HN.out; rwa [List.take_of_length_le (by have := HR.out.1; omega)] at this)).symm, hb⟩
theorem containsF_any (g : Nat) (p : Fr → Bool) (A : Option Addr) (n c : Nat) (xs : List Fr) (w : World) (eg : ∀ args w, (callFunc g args).run Tryz.prog w = .ok (.enter g args) w)
    (hp : ∀ (W : World) (x : Fr), x ∈ xs → Below w.heap.size w W → Calls Tryz.prog g #[FrV x] W fun e w' => e = .returned (.bool (p x)) ∧ Below W.heap.size W w') (hr : Frs w w.heap.size A n xs) (hn : n ≤ 1000000000) :
    Calls Tryz.prog 16 #[.slice A n c, .func (.func g) #[] #[]] w fun e w' => e = .returned (.bool (xs.any p)) ∧ Below w.heap.size w w' := by
  have H := Lib.hid (indexF_any g p A n c xs w eg hp hr hn); clear hp eg hr
  have e := idxF_nonneg p xs
  generalize idxF p xs = z at *
  have E := Lib.hid e; clear e
  go_enter Tryz.func16, Tryz.ntmps16
  go_wp2_with (go_at_call 31; refine (H.out).mono ?_; rintro e w' ⟨rfl, hb'⟩)
  go_ret
  exact ⟨ret_bool E.out, hb'⟩
end Go.Proofs.YtaiikjgoofefgaaGreatDoor
