/- Contract of integer's magnitude.divide: the easy ways. -/
import Derived.Test.YtaiikjgoofefgaaGreatDoorN12
namespace Go.Proofs.YtaiikjgoofefgaaGreatDoor
open Go.RowKit Go.Shelf

/-- What divide gives. -/
def DivPost (q r : Nat) (w : World) (e : Ending) (w' : World) : Prop :=
  ∃ A1 n1 c1 qs A2 n2 c2 rs, e = .returned (.tuple #[.slice A1 n1 c1, .slice A2 n2 c2]) ∧ Gr w' w'.heap.size A1 n1 qs ∧ n1 ≤ c1 ∧ Mag qs q ∧ Gr w' w'.heap.size A2 n2 rs ∧ n2 ≤ c2 ∧ Mag rs r ∧ Below w.heap.size w w'
set_option maxRecDepth 100000 in
set_option maxHeartbeats 4000000 in
theorem divide_less (A A' : Option Addr) (n m c c' : Nat) (xs ys : List Nat) (u v : Nat) (w : World) (hx : Gr w w.heap.size A n xs) (hy : Gr w w.heap.size A' m ys) (mx : Mag xs u) (my : Mag ys v) (hn : n ≤ 1000000) (hm : m ≤ 1000000) (hc : n ≤ c) (huv : u < v) :
    Calls Tryz.prog 95 #[.slice A n c, .slice A' m c'] w (DivPost (u / v) (u % v) w) := by
  have HCM := Lib.hid (compare_any A A' n m c c' xs ys u v w hx hy mx my hn hm)
  have HX := Lib.hid hx; have HMX := Lib.hid mx
  clear hx hy mx my
  have HPO := Lib.hid (show DivPost (u / v) (u % v) w = fun e w' => ∃ A1 n1 c1 qs A2 n2 c2 rs, e = .returned (.tuple #[.slice A1 n1 c1, .slice A2 n2 c2]) ∧ Gr w' w'.heap.size A1 n1 qs ∧ n1 ≤ c1 ∧ Mag qs (u / v) ∧ Gr w' w'.heap.size A2 n2 rs ∧ n2 ≤ c2 ∧ Mag rs (u % v) ∧ Below w.heap.size w w' from rfl)
  generalize DivPost (u / v) (u % v) w = post at *
  go_enter Tryz.func95, Tryz.ntmps95
  go_wp2_with fail
  (with_reducible refine HCM.out.mono ?_)
  rintro e w1 ⟨r, rfl, hr1, hr2, _, _, hb1⟩
  have hr : r < 0 := hr1.2 huv
  clear hr1 hr2
  go_wp2_with fail
  rw [HPO.out]
  refine ⟨none, 0, 0, [], A, n, c, xs, rfl, Sl.nil, Nat.le_refl _, ?_, HX.out.here hb1, hc, ?_, hb1⟩
  · rw [Nat.div_eq_of_lt huv]; exact Mag.zero
  · rw [Nat.mod_eq_of_lt huv]; exact HMX.out
set_option maxRecDepth 100000 in
set_option maxHeartbeats 4000000 in
theorem divide_one (A A' : Option Addr) (n c c' : Nat) (xs ys : List Nat) (u v : Nat) (w : World) (hx : Gr w w.heap.size A n xs) (hy : Gr w w.heap.size A' 1 ys) (mx : Mag xs u) (my : Mag ys v) (hn : n ≤ 1000000) (huv : v ≤ u) :
    Calls Tryz.prog 95 #[.slice A n c, .slice A' 1 c'] w (DivPost (u / v) (u % v) w) := by
  have HCM := Lib.hid (compare_any A A' n 1 c c' xs ys u v w hx hy mx my hn (by omega))
  obtain ⟨yb, yo, y, rfl, hyb, hy0, d0⟩ := hy.grp (i := 0) (by omega)
  have hyv : ys = [y] := by
    have hl := hy.1
    cases ys with
    | nil => simp at hl
    | cons a t =>
      cases t with
      | nil => simp at hy0; rw [hy0]
      | cons _ _ => simp at hl
  have hv : v = y := by rw [← my.val, hyv]; simp [gv]
  subst hv
  have hv9 := my.gs.at_ hy0
  have hv0 : 0 < v := by
    rcases Nat.eq_zero_or_pos v with h | h
    · have := my.nil_iff.2 h; rw [hyv] at this; simp at this
    · exact h
  have HX := Lib.hid hx; have HMX := Lib.hid mx; have HD := Lib.hid d0
  clear hx hy mx my hyv hy0 d0
  have HPO := Lib.hid (show DivPost (u / v) (u % v) w = fun e w' => ∃ A1 n1 c1 qs A2 n2 c2 rs, e = .returned (.tuple #[.slice A1 n1 c1, .slice A2 n2 c2]) ∧ Gr w' w'.heap.size A1 n1 qs ∧ n1 ≤ c1 ∧ Mag qs (u / v) ∧ Gr w' w'.heap.size A2 n2 rs ∧ n2 ≤ c2 ∧ Mag rs (u % v) ∧ Below w.heap.size w w' from rfl)
  generalize DivPost (u / v) (u % v) w = post at *
  go_enter Tryz.func95, Tryz.ntmps95
  go_wp2_with fail
  (with_reducible refine HCM.out.mono ?_)
  rintro e w1 ⟨r, rfl, hr1, hr2, _, _, hb1⟩
  have hr : ¬ r < 0 := fun h => by have := hr1.1 h; omega
  have hrd : decide (r < 0) = false := by simpa using hr
  clear hr1 hr2 hr
  have d1 := (hb1.cell (p := ⟨yb, yo + 0, none⟩) hyb).trans HD.out
  rw [Nat.add_zero] at d1
  go_wp2_with fail
  (with_reducible refine (single_any A n c xs u v w1 (HX.out.here hb1) HMX.out.gs HMX.out.val hv0 hv9 hn).mono ?_)
  rintro e w2 ⟨A1, n1, c1, zs, rfl, ho2, mg2, hb2⟩
  have HO2 := Lib.hid ho2; have HM2 := Lib.hid mg2
  have hb02 := hb1.trans (hb2.mono hb1.size)
  clear ho2 mg2 d1
  have hr9 : u % v < v := Nat.mod_lt _ hv0
  have HSL := Lib.hid (Sl.lit w2 #[.int .u64 (u % v : Nat)] 78 [u % v] rfl U1_len)
  generalize u % v = rr at *
  have HCUT := Lib.hid (cut_any (some ⟨w2.heap.size, 0, none⟩) 1 1 [rr] (w2.alloc (.cells #[.int .u64 rr] 78)) (by have := HSL.out; simpa using this) (Nat.le_refl _) (by omega))
  go_wp2_with fail
  (with_reducible refine HCUT.out.mono ?_)
  rintro e w3 ⟨j, rfl, hj, hgv, hnz, rfl⟩
  go_wp2_with fail
  rw [HPO.out]
  refine ⟨A1, n1, c1, zs, _, j, 1, [rr].take j, rfl, (HO2.out.alloc _).sl U1_len, ?_, HM2.out, ?_, hj, ⟨?_, hnz, by rw [hgv]; simp [gv]⟩, hb02.alloc hb02.size _⟩
  · obtain ⟨h1, h2, _⟩ := HO2.out.facts; omega
  · have := HSL.out.take (m := j) hj
    simpa using this
  · refine Gs.take (fun x hx => ?_) j
    simp at hx; omega
end Go.Proofs.YtaiikjgoofefgaaGreatDoor
