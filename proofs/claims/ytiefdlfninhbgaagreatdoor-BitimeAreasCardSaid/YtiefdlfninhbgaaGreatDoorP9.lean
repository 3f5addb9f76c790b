/- Contract of the program's Area. -/
import Derived.Test.YtiefdlfninhbgaaGreatDoorP8
import Derived.Test.YtiefdlfninhbgaaGreatDoorN1
namespace Go.Proofs.YtiefdlfninhbgaaGreatDoor
open Go.RowKit Go.Shelf

def regArea (r : Reg) : Int := (r.to - r.fr) * (r.un - r.si)
def areaL (xs : List Reg) : Int := (xs.map regArea).sum
def pAreaL (xs : List Reg) : List UInt8 × Int := if pCheckL xs = 0 then (ofL (areaL xs), 0) else ([], 1)
theorem areaL_step {xs : List Reg} {j : Nat} {r : Reg} (h : xs[j]? = some r) : areaL (xs.take (j + 1)) = areaL (xs.take j) + regArea r := by
  obtain ⟨hj, rfl⟩ := List.getElem?_eq_some_iff.1 h
  unfold areaL; rw [List.take_succ_eq_append_getElem hj, List.map_append, List.sum_append]; simp
theorem checkOne_ok {r : Reg} (h : checkOne r = 0) : -25567 ≤ r.fr ∧ r.fr < r.to ∧ r.to ≤ 84006 ∧ 0 ≤ r.si ∧ r.si < r.un ∧ r.un ≤ 1001 := by
  unfold checkOne badDay badNum at h
  split at h
  · omega
  · split at h
    · omega
    · rename_i h1 h2
      simp at h1 h2
      omega
theorem regArea_bd {r : Reg} (h : checkOne r = 0) : 0 ≤ regArea r ∧ regArea r ≤ 110000000 := by
  obtain ⟨h1, h2, h3, h4, h5, h6⟩ := checkOne_ok h
  unfold regArea
  have a1 : 0 ≤ r.to - r.fr := by omega
  have a2 : r.to - r.fr ≤ 109573 := by omega
  have b1 : 0 ≤ r.un - r.si := by omega
  have b2 : r.un - r.si ≤ 1001 := by omega
  exact ⟨Int.mul_nonneg a1 b1, Int.le_trans (Int.mul_le_mul a2 b2 b1 (by omega)) (by omega)⟩
theorem pCheckL_ok {xs : List Reg} (h : pCheckL xs = 0) : xs.length ≤ 400 ∧ (∀ r ∈ xs, checkOne r = 0) ∧ pNormal xs = xs := by
  unfold pCheckL at h
  split at h
  · omega
  · rename_i hl
    split at h
    · rename_i r hf
      have := List.find?_some hf
      simp at this
      exact absurd h this
    · rename_i hf
      refine ⟨by omega, fun r hr => ?_, ?_⟩
      · have := List.find?_eq_none.1 hf r hr
        simpa using this
      · split at h
        · assumption
        · omega

set_option maxHeartbeats 400000 in
theorem Area_any (A : Option Addr) (n c : Nat) (xs : List Reg) (w : World) (hr : Rgs w w.heap.size A n xs) (hn : n ≤ 1000000000)
    (hof : ∀ W, Below w.heap.size w W → pCheckL xs = 0 → Calls Tryz.prog 31 #[.int .i64 (areaL xs)] W fun e w' => e = .returned (S (ofL (areaL xs))) ∧ Below W.heap.size W w') :
    Calls Tryz.prog 13 #[.slice A n c] w fun e w' => e = .returned (.tuple #[S (pAreaL xs).1, .int .i64 (pAreaL xs).2]) ∧ Below w.heap.size w w' := by
  have HC := Lib.hid (Check_any A n c xs w hr hn)
  have HXN := Lib.hid hr.1
  by_cases h : pCheckL xs = 0
  · have HP := Lib.hid (show pAreaL xs = (ofL (areaL xs), 0) by unfold pAreaL; rw [if_pos h])
    obtain ⟨hl, hv, _⟩ := pCheckL_ok h
    rw [h] at HC
    have hn4 : n ≤ 400 := by rw [hr.1]; exact hl
    have HOF := Lib.hid (fun W hb => hof W hb h)
    have HV := Lib.hid hv
    have HR := Lib.hid hr
    clear h hl hv hof hr
    go_enter Tryz.func13, Tryz.ntmps13
    go_wp2_with (go_at_call 15; refine HC.out.mono ?_; rintro e w1 ⟨rfl, hb1⟩)
    go_loopw [4, 6, 12] (fun s _ i wr => ∃ (j : Nat) (t : Int), j ≤ n ∧ i = .int .i64 j ∧ s = .int .i64 t ∧ 0 ≤ t ∧ t ≤ j * 110000000 ∧ Hid (t = areaL (xs.take j)) ∧ Below w.heap.size w wr) (fun _ _ i _ => n - (intOf i).toNat)
    case atStart => exact ⟨0, 0, Nat.zero_le _, rfl, rfl, by omega, by omega, by show _ = _; rfl, hb1⟩
    case round =>
      clear hb1
      obtain ⟨j, t, hj, rfl, rfl, ht0, ht1, HT, hb⟩ := hrel
      by_cases hlt : j < n
      · obtain ⟨b, off, r, rfl, hbl, hxj, d0, d1, d2, d3⟩ := (HR.out.below hb).reg hlt
        have HST := Lib.hid (areaL_step hxj)
        have hck := HV.out r (List.mem_of_getElem? hxj)
        obtain ⟨q1, q2, q3, q4, q5, q6⟩ := checkOne_ok hck
        obtain ⟨m1, m2⟩ := regArea_bd hck
        unfold regArea at m1 m2 HST
        clear hck hxj
        go_wp2
        generalize (r.to - r.fr) * (r.un - r.si) = ar at *
        go_roundw
        case rel => exact ⟨j + 1, t + ar, by omega, by go_num, rfl, by omega, by omega, by show _ = _; rw [HST.out, ← HT.out], hb.alloc hb.size _⟩
        case measure => simp [intOf]; omega
      · have HA := Lib.hid (show t = areaL xs by rw [HT.out, take_all HXN.out (by omega)])
        rw [← HA.out] at HOF HP
        go_wp2_with (go_at_call 31; refine (HOF.out _ hb).mono ?_; rintro e w3 ⟨rfl, hb3⟩)
        unfold S
        go_ret2
        rw [HP.out]
        exact ⟨rfl, hb.trans (hb3.mono hb.size)⟩
  · have HP := Lib.hid (show pAreaL xs = ([], 1) by unfold pAreaL; rw [if_neg h])
    have hcb : (pCheckL xs == 0) = false := by simp [h]
    have hcn : (pCheckL xs != 0) = true := by simp [h]
    clear h hof hr
    go_enter Tryz.func13, Tryz.ntmps13
    go_wp2_with (go_at_call 15; refine HC.out.mono ?_; rintro e w1 ⟨rfl, hb1⟩)
    go_ret2
    rw [HP.out]
    exact ⟨rfl, hb1⟩
theorem Area_small (A : Option Addr) (n c : Nat) (xs : List Reg) (w : World) (hr : Rgs w w.heap.size A n xs) (hn : n ≤ 1000000000) (h0 : 0 ≤ areaL xs) (h1 : areaL xs < 100) :
    Calls Tryz.prog 13 #[.slice A n c] w fun e w' => e = .returned (.tuple #[S (pAreaL xs).1, .int .i64 (pAreaL xs).2]) ∧ Below w.heap.size w w' := by
  refine Area_any A n c xs w hr hn (fun W _ _ => ?_)
  obtain ⟨m, hm⟩ := Int.eq_ofNat_of_zero_le h0
  rw [hm]
  exact of_small m (by omega) W
end Go.Proofs.YtiefdlfninhbgaaGreatDoor
