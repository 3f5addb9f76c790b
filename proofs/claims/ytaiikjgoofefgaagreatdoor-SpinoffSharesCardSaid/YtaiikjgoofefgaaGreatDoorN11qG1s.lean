/- Contract of integer's magnitude.times and magnitude.single. -/
import Derived.Test.YtaiikjgoofefgaaGreatDoorM2qG1s
namespace Go.Proofs.YtaiikjgoofefgaaGreatDoor
open Go.RowKit Go.Shelf

theorem prod_lt {x y : Nat} (hx : x < 1000000000) (hy : y < 1000000000) : x * y ≤ 999999998000000001 := Nat.le_trans (Nat.mul_le_mul (show x ≤ 999999999 by omega) (show y ≤ 999999999 by omega)) (by decide)
set_option maxRecDepth 20000 in
set_option maxHeartbeats 4000000 in
theorem times_any (A A' : Option Addr) (n m c c' : Nat) (xs ys : List Nat) (u v : Nat) (w : World) (hx : Gr w w.heap.size A n xs) (hy : Gr w w.heap.size A' m ys) (mx : Mag xs u) (my : Mag ys v) (hn : n ≤ 1000000) (hm : m ≤ 1000000) :
    Calls Tryz.prog 66 #[.slice A n c, .slice A' m c'] w (MagPost (u * v) w) := by
  have HX := Lib.hid hx; have HY := Lib.hid hy; have HMX := Lib.hid mx; have HMY := Lib.hid my
  have HXN := Lib.hid hx.1; have HYN := Lib.hid hy.1
  clear hx hy mx my
  have HPO := Lib.hid (show MagPost (u * v) w = fun e w' => ∃ A n c xs, e = .returned (.slice A n c) ∧ Own U1 1 78 w' w.heap.size (.slice A n c) xs ∧ Mag xs (u * v) ∧ Below w.heap.size w w' from rfl)
  generalize MagPost (u * v) w = post at *
  obtain ⟨w1, hmk, ho1, hb1⟩ := make_u w w.heap.size (n + m) (n + m) ((n : Int) + m) ((n : Int) + m) (by omega) (by omega) (by omega) (by omega) (Nat.le_refl _)
  have HO1 := Lib.hid ho1; clear ho1
  have HT0 := Lib.hid (TOut.start xs ys)
  rw [← HXN.out, ← HYN.out] at HT0
  go_enter Tryz.func66, Tryz.ntmps66
  go_wp2_with fail
  clear hmk
  go_loopw [19] (fun i wr => ∃ (k : Nat) (os : List Nat), k ≤ n ∧ i = .int .i64 k ∧ Hid (TOut xs ys k os) ∧ Hid (Own U1 1 78 wr w.heap.size (.slice (some ⟨w.heap.size, 0, none⟩) (n + m) (n + m)) os) ∧ Below w.heap.size w wr) (fun i _ => n - (intOf i).toNat)
  case atStart => exact ⟨0, _, Nat.zero_le _, rfl, HT0, HO1, hb1⟩
  case round =>
    clear HT0 HO1 hb1
    obtain ⟨i, os0, hi, rfl, HT, HO0, hb0⟩ := hrel
    by_cases hlt : i < n
    · obtain ⟨xb, xo, x, rfl, hxb, hxi, d0⟩ := HX.out.grp hlt
      have d0' := (hb0.cell (p := ⟨xb, xo + i, none⟩) hxb).trans d0
      have hx9 := HMX.out.gs.at_ hxi
      have HXI := Lib.hid hxi; clear hxi d0
      have HZ := Lib.hid (TInv.zero (os0 := os0) (ys := ys) (i := i) (x := x) HT.out.gs)
      go_wp2_with fail
      clear d0'
      go_loopw [8, 26] (fun cy k wr => ∃ (j carry : Nat) (os : List Nat), j ≤ m ∧ k = .int .i64 j ∧ cy = .int .u64 carry ∧ carry < 1000000000 ∧ Hid (TInv os0 ys i x j carry os) ∧ Hid (Own U1 1 78 wr w.heap.size (.slice (some ⟨w.heap.size, 0, none⟩) (n + m) (n + m)) os) ∧ Below w.heap.size w wr) (fun _ k _ => m - (intOf k).toNat)
      case atStart => exact ⟨0, 0, os0, Nat.zero_le _, rfl, rfl, by omega, HZ, HO0, hb0⟩
      case round =>
        clear HZ HO0 hb0
        obtain ⟨j, carry, os, hj, rfl, rfl, hcy, HI, HO, hb⟩ := hrel
        by_cases hjm : j < m
        · obtain ⟨yb, yo, y, rfl, hyb, hyj, e0⟩ := HY.out.grp hjm
          have e0' := (hb.cell (p := ⟨yb, yo + j, none⟩) hyb).trans e0
          have hy9 := HMY.out.gs.at_ hyj
          obtain ⟨gb, go, o, e', _, ho, f1⟩ := (HO.out.sl U1_len).grp (i := i + j) (by omega)
          injection e' with e'
          injection e' with e1 e2
          subst e1; subst e2
          simp only [Nat.zero_add] at f1
          have ho9 := HI.out.gs.at_ ho
          have HST := Lib.hid (HI.out.step ho hyj hx9 HMY.out.gs)
          have HOK := Lib.hid ho
          have f0 := HO.out.frozen (i + j)
          have hp := prod_lt hx9 hy9
          obtain ⟨p, hpe⟩ : ∃ p, p = x * y := ⟨_, rfl⟩
          rw [← hpe] at hp HST
          have hpi : (x : Int) * (y : Int) = (p : Int) := by rw [hpe]; simp
          clear hyj ho e0 hpe
          have hij : (i : Int) + (j : Int) < (n : Int) + (m : Int) := by omega
          have hij2 : ((i : Int) + (j : Int)).toNat = i + j := by omega
          go_wp2_with fail
          go_roundw
          case rel =>
            have h3 := HO.out.setU (i := i + j) (y := (carry + (o + p)) % 1000000000) HOK.out
            rw [show (((carry + (o + p)) % 1000000000 : Nat) : Int) = ((carry : Int) + (o + p)) % 1000000000 by omega] at h3
            refine ⟨j + 1, (carry + (o + p)) / 1000000000, os.set (i + j) ((carry + (o + p)) % 1000000000), by omega, by go_num, by go_num, by omega, HST, ?_, ?_⟩
            · show Own _ _ _ _ _ _ _
              with_reducible exact h3
            · with_reducible exact (hb.setCell (Nat.le_refl _) _)
          case measure => simp [intOf]; omega
        · obtain rfl : j = m := by omega
          rw [HYN.out] at HI
          by_cases hm0 : j = 0
          · have hmd : decide (0 < j) = false := by simp [hm0]
            obtain rfl : os = os0 := HI.out.none (by rw [← HYN.out]; exact hm0)
            have HN := Lib.hid (HT.out.next0 HXI.out (List.eq_nil_of_length_eq_zero (by rw [← HYN.out]; exact hm0)))
            clear hm0
            go_wp2_with fail
            go_roundw
            case rel => exact ⟨i + 1, os, by omega, by go_num, HN, HO, hb⟩
            case measure => simp [intOf]; omega
          · have hmd : decide (0 < j) = true := by simp; omega
            have hat := HT.out.at_ (by rw [← HXN.out]; exact hlt) HI.out
            have HN := Lib.hid (HT.out.next HXI.out HI.out)
            rw [← HYN.out] at hat HN
            obtain ⟨gb, go, o, e', _, ho, f1⟩ := (HO.out.sl U1_len).grp (i := i + j) (by omega)
            injection e' with e'
            injection e' with e1 e2
            subst e1; subst e2
            rw [hat] at ho
            injection ho with ho
            subst ho
            simp only [Nat.zero_add] at f1
            have f0 := HO.out.frozen (i + j)
            have HAT := Lib.hid hat; clear hat hm0
            have hij : (i : Int) + (j : Int) < (n : Int) + (j : Int) := by omega
            have hij2 : ((i : Int) + (j : Int)).toNat = i + j := by omega
            go_wp2_with fail
            go_roundw
            case rel =>
              have h3 := HO.out.setU (i := i + j) (y := carry) HAT.out
              refine ⟨i + 1, os.set (i + j) carry, by omega, by go_num, HN, ?_, ?_⟩
              · show Own _ _ _ _ _ _ _
                first | with_reducible exact h3 | (simp only [Int.natCast_zero, Int.zero_add]; exact h3)
              · with_reducible exact (hb.setCell (Nat.le_refl _) _)
            case measure => simp [intOf]; omega
    · obtain rfl : i = n := by omega
      have HV := Lib.hid (show gv os0 = u * v by have := HT.out.val; rw [List.take_of_length_le (by rw [← HXN.out]; omega), HMX.out.val, HMY.out.val] at this; exact this)
      have HCUT := Lib.hid (cut_any (some ⟨w.heap.size, 0, none⟩) (i + m) (i + m) os0 wr (HO0.out.sl U1_len) (Nat.le_refl _) (by omega))
      go_wp2_with fail
      (with_reducible refine HCUT.out.mono ?_)
      rintro e w3 ⟨j, rfl, hj, hgv, hnz, rfl⟩
      go_wp2_with fail
      rw [HPO.out]
      exact ⟨_, j, _, os0.take j, rfl, HO0.out.shrink U1_len (by rw [← HO0.out.facts.1]; exact hj), ⟨HT.out.gs.take j, hnz, by rw [hgv]; exact HV.out⟩, hb0⟩
end Go.Proofs.YtaiikjgoofefgaaGreatDoor
