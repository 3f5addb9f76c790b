/- Contracts of the reference's insert, days and spans. -/
import Derived.Test.YtiefdlfninhbgaaGreatDoorW2
import Derived.Deep.RegionLaw
import Derived.Deep.RegionLawGrows
namespace Go.Proofs.YtiefdlfninhbgaaGreatDoor
open Go.RowKit Go.Shelf

def insertL (xs : List Int) (n : Int) : List Int :=
  if xs[(xs.takeWhile (· < n)).length]? = some n then xs else xs.take (xs.takeWhile (· < n)).length ++ n :: xs.drop (xs.takeWhile (· < n)).length
theorem takeWhile_len (xs : List Int) (n : Int) (j : Nat) (h1 : ∀ x ∈ xs.take j, x < n) (h2 : ∀ x, xs[j]? = some x → ¬ x < n) (hj : j ≤ xs.length) : (xs.takeWhile (· < n)).length = j := by
  induction xs generalizing j with
  | nil => simp at hj; simp [hj]
  | cons y ys ih =>
    cases j with
    | zero => have := h2 y rfl; simp [this]
    | succ j =>
      have hy : y < n := h1 y (by simp)
      simp only [List.takeWhile_cons, hy, decide_true, if_true, List.length_cons]
      rw [ih j (fun x hx => h1 x (by simp [hx])) (fun x hx => h2 x (by simpa using hx)) (by simpa using hj)]
theorem insertL_same {xs : List Int} {n : Int} {j : Nat} (h1 : ∀ x ∈ xs.take j, x < n) (h2 : xs[j]? = some n) : insertL xs n = xs := by
  have hj := (List.getElem?_eq_some_iff.1 h2).1
  unfold insertL
  rw [takeWhile_len xs n j h1 (fun x hx => by rw [h2] at hx; injection hx with hx; omega) (by omega), if_pos h2]
theorem insertL_new {xs : List Int} {n : Int} {j : Nat} (h1 : ∀ x ∈ xs.take j, x < n) (h2 : ∀ x, xs[j]? = some x → n < x) (hj : j ≤ xs.length) : insertL xs n = xs.take j ++ ([n] ++ xs.drop j) := by
  unfold insertL
  rw [takeWhile_len xs n j h1 (fun x hx => by have := h2 x hx; omega) hj, if_neg (fun h => by have := h2 n h; omega)]
  rfl
theorem all_step {xs : List Int} {n x : Int} {j : Nat} (h : ∀ x ∈ xs.take j, x < n) (hx : xs[j]? = some x) (hl : x < n) : ∀ x ∈ xs.take (j + 1), x < n := by
  obtain ⟨hj, rfl⟩ := List.getElem?_eq_some_iff.1 hx
  rw [List.take_succ_eq_append_getElem hj]
  intro y hy
  rw [List.mem_append] at hy
  rcases hy with hy | hy
  · exact h y hy
  · simp at hy; rw [hy]; exact hl

set_option maxHeartbeats 400000 in
theorem insert_any (base : Nat) (A : Option Addr) (c : Nat) (xs : List Int) (n : Int) (w : World) (ho : Own I1 1 3 w base (.slice A xs.length c) xs) (hb : base ≤ w.heap.size) (hl : xs.length ≤ 1000000000) :
    Calls Tryz.prog 63 #[.slice A xs.length c, .int .i64 n] w (RetOwn I1 1 3 base w (insertL xs n)) := by
  obtain ⟨_, hc, hm, hA⟩ := ho.facts
  have hs := ho.sl I1_len
  have HO := Lib.hid ho; clear ho
  have HA := Lib.hid hA; clear hA
  go_enter Tryz.func63, Tryz.ntmps63
  go_wp2
  go_loop [5] (fun i => ∃ j : Nat, j ≤ xs.length ∧ i = .int .i64 j ∧ Hid (∀ x ∈ xs.take j, x < n)) (fun i => xs.length - (intOf i).toNat)
  case atStart => exact ⟨0, Nat.zero_le _, rfl, by intro x hx; simp at hx⟩
  case round =>
    obtain ⟨j, hj, rfl, hlt⟩ := hrel
    by_cases hjl : j < xs.length
    · obtain ⟨b, off, x, rfl, hbl, hx, d0⟩ := hs.int hjl
      have HX := Lib.hid hx; clear hx
      have HS := Lib.hid hs; clear hs
      by_cases h1 : x < n
      · go_wp2
        go_round
        case rel => exact ⟨j + 1, by omega, by go_num, all_step hlt.out HX.out h1⟩
        case measure => simp [intOf]; omega
      · by_cases h2 : x = n
        · have : (x == n) = true := by simp [h2]
          have HN := Lib.hid h2; clear h2
          go_wp2
          go_ret
          refine RetOwn.mk rfl ?_ (Below.refl _ _)
          rw [insertL_same hlt.out (by rw [HX.out, HN.out])]
          exact HO.out
        · have : (x == n) = false := by simp [h2]
          have hnx : n < x := by omega
          clear h2
          have hjc : j ≤ c := by omega
          have hcj : c ≠ j := by omega
          have hsl1 : Ints w w.heap.size (some ⟨b, off, none⟩) j (xs.take j) := HS.out.take hj
          have hsl2 : Ints w w.heap.size (some ⟨b, off + j, none⟩) (xs.length - j) (xs.drop j) := by have := HS.out.drop hj; simpa using this
          have H1 := Lib.hid hsl1; have H2 := Lib.hid hsl2; clear hsl1 hsl2
          go_wp2
          go_region_law (first
            | (refine step_app _ rfl (.tmp 38) (.tmp 41) _ rfl elemInts I1_len I1_one (base := w.heap.size) (.slice (some ⟨w.heap.size, 0, none⟩) 1 1) [n] rfl (Own.drew (Own.lit w #[.int .i64 n] 3 [n] rfl I1_len (Nat.le_refl _) (by simp [maxLen]))) _ _ _ _ (xs.drop j) rfl (H2.out.alloc (Nat.le_refl _) _).drew (by simp; omega) (by simp) ?_
               intro A1 c1 w1 ho1 hg1 _)
            | (refine step_grow _ rfl (.tmp 36) (.tmp 42) _ rfl elemInts I1_len I1_one w.heap.size _ _ _ (xs.take j) rfl ((H1.out.alloc (Nat.le_refl _) _).drew.grown hg1 (by simp) (by simp [Value.ownBlock])) (fun h => by cases h) _ _ _ _ ([n] ++ xs.drop j) rfl (ho1.sl I1_len) (Nat.le_refl _) (by omega) (by omega) ?_
               intro A2 c2 w2 ho2 hg2))
          go_wp2
          go_ret
          have hb1 : Below w.heap.size w w1 := below_grown (((Below.refl _ _).alloc (Nat.le_refl _) _).drew) hg1 (by simp) (by simp [Value.ownBlock])
          refine RetOwn.mk rfl ?_ (below_grown_none hb1 hg2 hb1.size)
          rw [insertL_new hlt.out (fun y hy => by rw [HX.out] at hy; injection hy with hy; omega) hj]
          exact ho2.base_ (Nat.le_trans hb hb1.size)
    · obtain rfl : j = xs.length := by omega
      have hsl1 : Ints w w.heap.size A xs.length (xs.take xs.length) := hs.take hj
      rw [List.take_length] at hlt hsl1
      have H1 := Lib.hid hsl1; clear hsl1
      have HL := Lib.hid hs; clear hs
      have Hins := Lib.hid (show insertL xs n = xs ++ ([n] ++ []) by
        rw [insertL_new (j := xs.length) (by rw [List.take_length]; exact hlt.out) (fun y hy => by simp at hy) (Nat.le_refl _), List.take_length, List.drop_length])
      rcases HA.out with ⟨rfl, rfl, rfl⟩ | ⟨g, rfl, hg1, hg2⟩
      · simp only [List.length_nil] at *
        go_wp2
        go_region_law (first
          | (refine step_app _ rfl (.tmp 38) (.tmp 41) _ rfl elemInts I1_len I1_one (base := w.heap.size) (.slice (some ⟨w.heap.size, 0, none⟩) 1 1) [n] rfl (Own.drew (Own.lit w #[.int .i64 n] 3 [n] rfl I1_len (Nat.le_refl _) (by simp [maxLen]))) 0 _ _ _ [] rfl (by simpa using Sl.nil) (by simp) (by simp) ?_
             intro A1 c1 w1 ho1 hg1 _)
          | (refine step_grow _ rfl (.tmp 36) (.tmp 42) _ rfl elemInts I1_len I1_one w.heap.size _ _ _ [] rfl ((H1.out.alloc (Nat.le_refl _) _).drew.grown hg1 (by simp) (by simp [Value.ownBlock])) (fun _ => rfl) _ _ _ _ ([n] ++ []) rfl (ho1.sl I1_len) (Nat.le_refl _) (by simp) (by simp; try omega) ?_
             intro A2 c2 w2 ho2 hg2))
        go_wp2
        go_ret
        have hb1 : Below w.heap.size w w1 := below_grown (((Below.refl _ _).alloc (Nat.le_refl _) _).drew) hg1 (by simp) (by simp [Value.ownBlock])
        refine RetOwn.mk rfl ?_ (below_grown_none hb1 hg2 hb1.size)
        rw [Hins.out]
        exact ho2.base_ (Nat.le_trans hb hb1.size)
      · have hcl : c = xs.length ∨ c ≠ xs.length := by omega
        rcases hcl with rfl | hcl
        · go_wp2
          go_region_law (first
            | (refine step_app _ rfl (.tmp 38) (.tmp 41) _ rfl elemInts I1_len I1_one (base := w.heap.size) (.slice (some ⟨w.heap.size, 0, none⟩) 1 1) [n] rfl (Own.drew (Own.lit w #[.int .i64 n] 3 [n] rfl I1_len (Nat.le_refl _) (by simp [maxLen]))) 0 _ _ _ [] rfl (by simpa using Sl.nil) (by simp) (by simp) ?_
               intro A1 c1 w1 ho1 hg1 _)
            | (refine step_grow _ rfl (.tmp 36) (.tmp 42) _ rfl elemInts I1_len I1_one w.heap.size _ _ _ xs rfl ((H1.out.alloc (Nat.le_refl _) _).drew.grown hg1 (by simp) (by simp [Value.ownBlock])) (fun h => by cases h) _ _ _ _ ([n] ++ []) rfl (ho1.sl I1_len) (Nat.le_refl _) (by simp) (by simp; try omega) ?_
               intro A2 c2 w2 ho2 hg2))
          go_wp2
          go_ret
          have hb1 : Below w.heap.size w w1 := below_grown (((Below.refl _ _).alloc (Nat.le_refl _) _).drew) hg1 (by simp) (by simp [Value.ownBlock])
          refine RetOwn.mk rfl ?_ (below_grown_none hb1 hg2 hb1.size)
          rw [Hins.out]
          exact ho2.base_ (Nat.le_trans hb hb1.size)
        · go_wp2
          go_region_law (first
            | (refine step_app _ rfl (.tmp 38) (.tmp 41) _ rfl elemInts I1_len I1_one (base := w.heap.size) (.slice (some ⟨w.heap.size, 0, none⟩) 1 1) [n] rfl (Own.drew (Own.lit w #[.int .i64 n] 3 [n] rfl I1_len (Nat.le_refl _) (by simp [maxLen]))) 0 _ _ _ [] rfl (by simpa using Sl.nil) (by simp) (by simp) ?_
               intro A1 c1 w1 ho1 hg1 _)
            | (refine step_grow _ rfl (.tmp 36) (.tmp 42) _ rfl elemInts I1_len I1_one w.heap.size _ _ _ xs rfl ((H1.out.alloc (Nat.le_refl _) _).drew.grown hg1 (by simp) (by simp [Value.ownBlock])) (fun h => by cases h) _ _ _ _ ([n] ++ []) rfl (ho1.sl I1_len) (Nat.le_refl _) (by simp) (by simp; try omega) ?_
               intro A2 c2 w2 ho2 hg2))
          go_wp2
          go_ret
          have hb1 : Below w.heap.size w w1 := below_grown (((Below.refl _ _).alloc (Nat.le_refl _) _).drew) hg1 (by simp) (by simp [Value.ownBlock])
          refine RetOwn.mk rfl ?_ (below_grown_none hb1 hg2 hb1.size)
          rw [Hins.out]
          exact ho2.base_ (Nat.le_trans hb hb1.size)
end Go.Proofs.YtiefdlfninhbgaaGreatDoor
