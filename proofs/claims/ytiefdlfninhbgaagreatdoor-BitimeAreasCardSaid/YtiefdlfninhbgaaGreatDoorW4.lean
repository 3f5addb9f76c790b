/- Contracts of the reference's days and spans. -/
import Derived.Test.YtiefdlfninhbgaaGreatDoorW3
import Derived.Deep.RegionHeld3
namespace Go.Proofs.YtiefdlfninhbgaaGreatDoor
open Go.RowKit Go.Shelf

def daysL (xs : List Reg) : List Int := xs.foldl (fun o r => insertL (insertL o r.fr) r.to) []
theorem insertL_len (xs : List Int) (n : Int) : (insertL xs n).length ≤ xs.length + 1 := by
  unfold insertL; split
  · omega
  · have : (xs.take (xs.takeWhile (· < n)).length ++ n :: xs.drop (xs.takeWhile (· < n)).length).length = xs.length + 1 := by
      rw [List.length_append, List.length_cons, List.length_take, List.length_drop]; omega
    omega
theorem daysL_step {xs : List Reg} {j : Nat} {r : Reg} (h : xs[j]? = some r) : daysL (xs.take (j + 1)) = insertL (insertL (daysL (xs.take j)) r.fr) r.to := by
  obtain ⟨hj, rfl⟩ := List.getElem?_eq_some_iff.1 h
  unfold daysL; rw [List.take_succ_eq_append_getElem hj, List.foldl_append]; rfl
theorem daysL_len (xs : List Reg) : (daysL xs).length ≤ 2 * xs.length := by
  have : ∀ (l : List Reg) (o : List Int), (l.foldl (fun o r => insertL (insertL o r.fr) r.to) o).length ≤ o.length + 2 * l.length := by
    intro l
    induction l with
    | nil => intro o; simp
    | cons a l ih => intro o; rw [List.foldl_cons]; have h1 := ih (insertL (insertL o a.fr) a.to); have h2 := insertL_len (insertL o a.fr) a.to; have h3 := insertL_len o a.fr; rw [List.length_cons]; omega
  have := this xs []; simpa [daysL] using this

set_option maxHeartbeats 400000 in
theorem days_any (A : Option Addr) (n c : Nat) (xs : List Reg) (w : World) (hr : Rgs w w.heap.size A n xs) (hn : n ≤ 100000000) :
    Calls Tryz.prog 59 #[.slice A n c] w (RetOwn I1 1 3 w.heap.size w (daysL xs)) := by
  go_enter Tryz.func59, Tryz.ntmps59
  go_wp2
  go_loopw [3, 4] (fun v i wr => ∃ (j : Nat) (A' : Option Addr) (c' m : Nat), j ≤ n ∧ i = .int .i64 j ∧ v = .slice A' m c' ∧ m ≤ 2 * j ∧ Own I1 1 3 wr w.heap.size (.slice A' m c') (daysL (xs.take j)) ∧ Below w.heap.size w wr) (fun _ i _ => n - (intOf i).toNat)
  case atStart => exact ⟨0, _, _, 0, Nat.zero_le _, rfl, rfl, Nat.zero_le _, Own.lit w #[] 3 [] rfl I1_len (Nat.le_refl _) (by simp), (Below.refl _ _).alloc (Nat.le_refl _) _⟩
  case round =>
    obtain ⟨j, A', c', m, hj, rfl, rfl, hm, ho, hb⟩ := hrel
    by_cases hlt : j < n
    · obtain ⟨b, off, r, rfl, hbl, hxj, d0, d1, d2, d3⟩ := (hr.below hb).reg hlt
      have hL := daysL_step hxj
      generalize daysL (xs.take j) = l at *
      obtain ⟨rfl, _⟩ := ho.facts
      have HX := Lib.hid hxj; clear hxj
      have HR := Lib.hid hr; clear hr
      have HL := Lib.hid hL; clear hL
      have HO := Lib.hid ho; clear ho
      clear d2 d3
      have hl1 := insertL_len l r.fr
      have hl2 := insertL_len (insertL l r.fr) r.to
      go_wp2
      go_region_held3 (fun w' => w'.cell? ⟨b, off + j * 4, none⟩ = some (.int .i64 r.fr) ∧ w'.cell? ⟨b, off + j * 4 + 1, none⟩ = some (.int .i64 r.to))
        (first
          | go_keep
          | exact ⟨(hb1.cell (p := ⟨b, off + j * 4, none⟩) (by have := hb.size; simp; omega)).trans d0, (hb1.cell (p := ⟨b, off + j * 4 + 1, none⟩) (by have := hb.size; simp; omega)).trans d1⟩
          | exact ⟨((hb1.trans (hb2.mono hb1.size)).cell (p := ⟨b, off + j * 4, none⟩) (by have := hb.size; simp; omega)).trans d0, ((hb1.trans (hb2.mono hb1.size)).cell (p := ⟨b, off + j * 4 + 1, none⟩) (by have := hb.size; simp; omega)).trans d1⟩)
        (first
          | (go_at_call_of 63 (Value.int .i64 r.fr); refine (insert_any w.heap.size A' c' l r.fr _ HO.out.drew (by exact hb.size) (by omega)).mono ?_; rintro e w1 ⟨A1, c1, rfl, ho1, hb1⟩)
          | (go_at_call_of 63 (Value.int .i64 r.to); refine (insert_any w.heap.size A1 c1 (insertL l r.fr) r.to _ ho1 (by exact Nat.le_trans hb.size hb1.size) (by omega)).mono ?_; rintro e w2 ⟨A2, c2, rfl, ho2, hb2⟩))
      all_goals
        go_wp2
        go_roundw
        case rel => exact ⟨j + 1, A2, c2, _, by omega, by go_num, rfl, by omega, by rw [HL.out]; exact ho2, hb.drew.trans ((hb1.trans (hb2.mono hb1.size)).mono hb.size)⟩
        case measure => simp [intOf]; omega
    · go_wp2
      go_ret
      refine RetOwn.mk rfl ?_ hb
      rw [take_all hr.1 (by omega)] at ho
      exact ho
end Go.Proofs.YtiefdlfninhbgaaGreatDoor
