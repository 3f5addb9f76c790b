/- Contract of the reference's Area; it is the program's. -/
import Derived.Test.YtiefdlfninhbgaaGreatDoorRO
import Derived.Test.YtiefdlfninhbgaaGreatDoorTb
import Derived.Test.YtiefdlfninhbgaaGreatDoorP9
import Derived.Test.YtiefdlfninhbgaaGreatDoorT3
namespace Go.Proofs.YtiefdlfninhbgaaGreatDoor
open Go.RowKit Go.Shelf

set_option maxRecDepth 20000 in
theorem rOf_zero (w : World) : Calls Tryz.prog 42 #[.int .i64 0] w fun e w' => e = .returned (S (txtL 0)) ∧ w = w' := by
  unfold S
  go_enter Tryz.func42, Tryz.ntmps42
  go_wp2
  go_ret
  exact ⟨rfl, rfl⟩
theorem rOf_nat (m : Nat) (h : (m : Int) ≤ 9223372036854775807) (w : World) : Calls Tryz.prog 42 #[.int .i64 m] w fun e w' => e = .returned (S (ofL m)) ∧ w = w' := by
  rw [ofL_nat, ← txtL_nat]
  by_cases h0 : m = 0
  · subst h0; exact rOf_zero w
  · exact rOf_pos m (by omega) h w
theorem areaL_bd (xs : List Reg) (hv : ∀ r ∈ xs, checkOne r = 0) : 0 ≤ areaL xs ∧ areaL xs ≤ xs.length * 110000000 := by
  induction xs with
  | nil => exact ⟨Int.le_refl _, Int.le_refl _⟩
  | cons r xs ih =>
    obtain ⟨h1, h2⟩ := ih (fun s hs => hv s (by simp [hs]))
    obtain ⟨h3, h4⟩ := regArea_bd (hv r (by simp))
    unfold areaL at *
    rw [List.map_cons, List.sum_cons, List.length_cons]
    exact ⟨by omega, by omega⟩

set_option maxRecDepth 20000 in
set_option maxHeartbeats 1000000 in
theorem rArea_any (A : Option Addr) (n c : Nat) (xs : List Reg) (w : World) (hr : Rgs w w.heap.size A n xs) (hn : n ≤ 1000000000) :
    Calls Tryz.prog 14 #[.slice A n c] w fun e w' => e = .returned (.tuple #[S (pAreaL xs).1, .int .i64 (pAreaL xs).2]) ∧ Below w.heap.size w w' := by
  have HC := Lib.hid (rCheck_any A n c xs w hr hn)
  rw [← pCheckL_eq] at HC
  have HXN := Lib.hid hr.1
  by_cases h : pCheckL xs = 0
  · have HP := Lib.hid (show pAreaL xs = (ofL (areaL xs), 0) by unfold pAreaL; rw [if_pos h])
    obtain ⟨hl, hv, _⟩ := pCheckL_ok h
    rw [h] at HC
    have hn4 : n ≤ 400 := by rw [hr.1]; exact hl
    obtain ⟨ha0, ha1⟩ := areaL_bd xs hv
    obtain ⟨m, hm⟩ := Int.eq_ofNat_of_zero_le ha0
    have HOF := Lib.hid (fun W => rOf_nat m (by omega) W)
    rw [← hm] at HOF
    have HV := Lib.hid hv
    have HR := Lib.hid hr
    clear h hl hv hr ha0 ha1 hm
    go_enter Tryz.func14, Tryz.ntmps14
    go_wp2_with (go_at_call 16; refine HC.out.mono ?_; rintro e w1 ⟨rfl, hb1⟩)
    go_loopw [4, 5] (fun s i wr => ∃ (j : Nat) (t : Int), j ≤ n ∧ i = .int .i64 j ∧ s = .int .i64 t ∧ 0 ≤ t ∧ t ≤ j * 110000000 ∧ Hid (t = areaL (xs.take j)) ∧ Below w.heap.size w wr) (fun _ i _ => n - (intOf i).toNat)
    case atStart => exact ⟨0, 0, Nat.zero_le _, rfl, rfl, by omega, by omega, by show _ = _; rfl, hb1⟩
    case round =>
      clear hb1
      obtain ⟨j, t, hj, rfl, rfl, ht0, ht1, HT, hb⟩ := hrel
      by_cases hlt : j < n
      · obtain ⟨b, off, r, rfl, hbl, hxj, d0, d1, d2, d3⟩ := (HR.out.below hb).reg hlt
        have HST := Lib.hid (areaL_step hxj)
        have hck := HV.out r (List.mem_of_getElem? hxj)
        obtain ⟨q1, q2, q3, q4, q5, q6⟩ := checkOne_ok hck
        obtain ⟨m1, m2⟩ := regArea_bd hck
        unfold regArea at m1 m2 HST
        clear hck hxj
        have i1 : IntKind.i64.wrap (r.to - r.fr) = r.to - r.fr := IntWalk.i64_in _ (by omega)
        have i2 : IntKind.i64.wrap (r.un - r.si) = r.un - r.si := IntWalk.i64_in _ (by omega)
        have i3 : IntKind.i64.wrap ((r.to - r.fr) * (r.un - r.si)) = (r.to - r.fr) * (r.un - r.si) := IntWalk.i64_in _ (by omega)
        have i4 : IntKind.i64.wrap (t + (r.to - r.fr) * (r.un - r.si)) = t + (r.to - r.fr) * (r.un - r.si) := IntWalk.i64_in _ (by omega)
        go_wp2
        go_quiet (fail)
        clear i1 i2 i3 i4
        generalize (r.to - r.fr) * (r.un - r.si) = ar at *
        go_wp2
        go_roundw
        case rel => exact ⟨j + 1, t + ar, by omega, by go_num, rfl, by omega, by omega, by show _ = _; rw [HST.out, ← HT.out], bdN hb nq⟩
        case measure => simp [intOf]; omega
      · have HA := Lib.hid (show t = areaL xs by rw [HT.out, take_all HXN.out (by omega)])
        rw [← HA.out] at HOF HP
        go_wp2_with (go_at_call 42; refine (HOF.out _).mono ?_; rintro e w3 ⟨rfl, rfl⟩)
        unfold S
        go_ret2
        rw [HP.out]
        exact ⟨rfl, hb⟩
  · have HP := Lib.hid (show pAreaL xs = ([], 1) by unfold pAreaL; rw [if_neg h])
    have hcb : (pCheckL xs == 0) = false := by simp [h]
    have hcn : (pCheckL xs != 0) = true := by simp [h]
    clear h hr
    go_enter Tryz.func14, Tryz.ntmps14
    go_wp2_with (go_at_call 16; refine HC.out.mono ?_; rintro e w1 ⟨rfl, hb1⟩)
    go_ret2
    rw [HP.out]
    exact ⟨rfl, hb1⟩
theorem Area_full (A : Option Addr) (n c : Nat) (xs : List Reg) (w : World) (hp : Pow w) (hr : Rgs w w.heap.size A n xs) (hn : n ≤ 1000000000) :
    Calls Tryz.prog 13 #[.slice A n c] w fun e w' => e = .returned (.tuple #[S (pAreaL xs).1, .int .i64 (pAreaL xs).2]) ∧ Below w.heap.size w w' := by
  refine Area_any A n c xs w hr hn (fun W hb h => ?_)
  obtain ⟨hl, hv, _⟩ := pCheckL_ok h
  obtain ⟨ha0, ha1⟩ := areaL_bd xs hv
  exact of_any _ (by omega) (by omega) W (hp.here hb)
end Go.Proofs.YtiefdlfninhbgaaGreatDoor
