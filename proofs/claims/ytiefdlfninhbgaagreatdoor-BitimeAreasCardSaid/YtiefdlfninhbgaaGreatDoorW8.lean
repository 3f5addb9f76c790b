/- Contracts of the reference's limited, Normal and Check. -/
import Derived.Test.YtiefdlfninhbgaaGreatDoorW7
namespace Go.Proofs.YtiefdlfninhbgaaGreatDoor
open Go.RowKit Go.Shelf

def normL (xs : List Reg) : List Reg × Int := if 400 < xs.length then ([], 4) else if xs.any (fun r => checkOne r != 0) then ([], 1) else limL (formL xs)
def checkL (xs : List Reg) : Int := if 400 < xs.length then 4 else match xs.find? (fun r => checkOne r != 0) with | some r => checkOne r | none => if formL xs = xs then 0 else 8

theorem find_at {α : Type} {p : α → Bool} {xs : List α} {j : Nat} {r : α} (h : xs[j]? = some r) (hn : (xs.take j).any p = false) (hp : p r = true) : xs.find? p = some r := by
  induction xs generalizing j with
  | nil => simp at h
  | cons a xs ih =>
    cases j with
    | zero => simp at h; subst h; simp [hp]
    | succ j =>
      simp only [List.take_succ_cons, List.any_cons, Bool.or_eq_false_iff] at hn
      rw [List.find?_cons, hn.1]
      exact ih (by simpa using h) hn.2

set_option maxHeartbeats 400000 in
theorem rlimited_any (base : Nat) (A : Option Addr) (n c : Nat) (xs : List Reg) (w : World) (ho : Own Reg.vals 4 35 w base (.slice A n c) xs) (hb : base ≤ w.heap.size) (hn : n ≤ 1000000000) :
    Calls Tryz.prog 40 #[.slice A n c] w (RetOwn2 Reg.vals 4 35 base w (limL xs)) := by
  obtain ⟨rfl, _⟩ := ho.facts
  have HO := Lib.hid ho; clear ho
  by_cases h : 400 < xs.length
  · have HL := Lib.hid (show limL xs = ([], 4) by unfold limL; rw [if_pos h])
    go_enter Tryz.func40, Tryz.ntmps40
    go_wp2
    go_ret2
    exact RetOwn2.mk rfl HL.out (Own.lit w #[] 35 [] rfl Reg.vals_len hb (by simp)) ((Below.refl _ _).alloc (Nat.le_refl _) _)
  · have HL := Lib.hid (show limL xs = (xs, 0) by unfold limL; rw [if_neg h])
    go_enter Tryz.func40, Tryz.ntmps40
    go_wp2
    go_ret2
    exact RetOwn2.mk rfl HL.out HO.out (Below.refl _ _)

theorem formL_len (xs : List Reg) (h : xs.length ≤ 400) : (formL xs).length ≤ 1000000000 := by
  unfold formL joinL
  have hr := runsL_len (bandsL (daysL xs) (spL xs))
  have hbl : (bandsL (daysL xs) (spL xs)).length ≤ 800 := by unfold bandsL; rw [List.length_map, pairs_len]; have := daysL_len xs; omega
  have hsp : ∀ b ∈ runsL (bandsL (daysL xs) (spL xs)), (bandRegs b).length ≤ 800 := by
    intro b hb
    obtain ⟨y, hy, e⟩ := runsL_sp _ b hb
    unfold bandRegs
    rw [List.length_map, e]
    unfold bandsL at hy
    rw [List.mem_map] at hy
    obtain ⟨p, _, rfl⟩ := hy
    have := spL_len xs p.1
    simp only; omega
  have key : ∀ (l : List Band), (∀ b ∈ l, (bandRegs b).length ≤ 800) → (l.flatMap bandRegs).length ≤ l.length * 800 := by
    intro l
    induction l with
    | nil => intro _; simp
    | cons a l ih =>
      intro h
      rw [List.flatMap_cons, List.length_append, List.length_cons, Nat.succ_mul]
      have h1 := ih (fun b hb => h b (by simp [hb]))
      have h2 := h a (by simp)
      omega
  have h1 := key _ hsp
  have h2 : (runsL (bandsL (daysL xs) (spL xs))).length * 800 ≤ 800 * 800 := Nat.mul_le_mul_right _ (by omega)
  omega

set_option maxHeartbeats 400000 in
theorem rNormal_any (A : Option Addr) (n c : Nat) (xs : List Reg) (w : World) (hr : Rgs w w.heap.size A n xs) (hn : n ≤ 1000000000) :
    Calls Tryz.prog 12 #[.slice A n c] w (RetOwn2 Reg.vals 4 35 w.heap.size w (normL xs)) := by
  have hxn := hr.1
  by_cases h : 400 < n
  · have HL := Lib.hid (show normL xs = ([], 4) by unfold normL; rw [if_pos (by omega)])
    have HR := Lib.hid hr; clear hr
    clear hxn
    go_enter Tryz.func12, Tryz.ntmps12
    go_wp2
    go_ret2
    exact RetOwn2.mk rfl HL.out (Own.lit w #[] 35 [] rfl Reg.vals_len (Nat.le_refl _) (by simp)) ((Below.refl _ _).alloc (Nat.le_refl _) _)
  · have HNL := Lib.hid (show normL xs = if xs.any (fun r => checkOne r != 0) then ([], 1) else limL (formL xs) by unfold normL; rw [if_neg (by omega)])
    have HFL := Lib.hid (formL_len xs (by omega))
    have HXN := Lib.hid hxn
    clear hxn
    have HF := Lib.hid (fun (W : World) (h : Rgs W W.heap.size A n xs) => form_any A n c xs W h (by omega))
    go_enter Tryz.func12, Tryz.ntmps12
    go_wp2
    go_loopw [4] (fun i wr => ∃ j : Nat, j ≤ n ∧ i = .int .i64 j ∧ (xs.take j).any (fun r => checkOne r != 0) = false ∧ Below w.heap.size w wr) (fun i _ => n - (intOf i).toNat)
    case atStart => exact ⟨0, Nat.zero_le _, rfl, by simp, Below.refl _ _⟩
    case round =>
      obtain ⟨j, hj, rfl, hno, hb⟩ := hrel
      by_cases hlt : j < n
      · obtain ⟨b, off, r, rfl, hbl, hxj, d0, d1, d2, d3⟩ := (hr.below hb).reg hlt
        have HX := Lib.hid hxj; clear hxj
        have HN := Lib.hid hno; clear hno
        have HR := Lib.hid hr; clear hr
        have hv := fun W => valid_any r W
        unfold Reg.val at hv
        have HV := Lib.hid hv; clear hv
        by_cases hc : checkOne r = 0
        · have HC := Lib.hid hc; clear hc
          go_wp2_with (go_at_call 39; refine (HV.out _).mono ?_; rintro e w1 ⟨rfl, hb1⟩; rw [HC.out])
          go_roundw
          case rel => exact ⟨j + 1, by omega, by go_num, any_step HX.out HN.out (by simp [HC.out]), hb.trans (hb1.mono hb.size)⟩
          case measure => simp [intOf]; omega
        · have hcb : (checkOne r == 0) = false := by simp [hc]
          have hcn : (checkOne r != 0) = true := by simp [hc]
          have HC := Lib.hid hc; clear hc
          go_wp2_with (go_at_call 39; refine (HV.out _).mono ?_; rintro e w1 ⟨rfl, hb1⟩)
          go_ret2
          refine RetOwn2.mk rfl ?_ (Own.lit w1 #[] 35 [] rfl Reg.vals_len (Nat.le_trans hb.size hb1.size) (by simp)) ((hb.trans (hb1.mono hb.size)).alloc (Nat.le_trans hb.size hb1.size) _)
          rw [HNL.out, if_pos]
          rw [List.any_eq_true]
          exact ⟨r, List.mem_of_getElem? HX.out, hcn⟩
      · have HN := Lib.hid (show normL xs = limL (formL xs) by rw [HNL.out, if_neg]; rw [take_all HXN.out (by omega)] at hno; simp [hno])
        clear hno
        have HR := Lib.hid hr; clear hr
        go_wp2_with (first
          | (go_at_call 41; refine (HF.out _ ((HR.out.below hb).more hb.size)).mono ?_; rintro e w1 ⟨A1, c1, rfl, ho1, hb1⟩)
          | (go_at_call 40; refine (rlimited_any w.heap.size A1 _ c1 (formL xs) _ (ho1.base_ hb.size) (Nat.le_trans hb.size hb1.size) HFL.out).mono ?_; rintro e w2 ⟨A2, c2, rfl, ho2, hb2⟩))
        go_ret2
        exact RetOwn2.mk rfl HN.out ho2 (hb.trans ((hb1.trans (hb2.mono hb1.size)).mono hb.size))

set_option maxHeartbeats 400000 in
theorem rCheck_any (A : Option Addr) (n c : Nat) (xs : List Reg) (w : World) (hr : Rgs w w.heap.size A n xs) (hn : n ≤ 1000000000) :
    Calls Tryz.prog 16 #[.slice A n c] w fun e w' => e = .returned (.int .i64 (checkL xs)) ∧ Below w.heap.size w w' := by
  have hxn := hr.1
  by_cases h : 400 < n
  · have HL := Lib.hid (show checkL xs = 4 by unfold checkL; rw [if_pos (by omega)])
    have HR := Lib.hid hr; clear hr
    clear hxn
    go_enter Tryz.func16, Tryz.ntmps16
    go_wp2
    go_ret
    exact ⟨ret_int HL.out.symm, Below.refl _ _⟩
  · have HNL := Lib.hid (show checkL xs = match xs.find? (fun r => checkOne r != 0) with | some r => checkOne r | none => if formL xs = xs then 0 else 8 by unfold checkL; rw [if_neg (by omega)])
    have HFL := Lib.hid (formL_len xs (by omega))
    have HXN := Lib.hid hxn
    clear hxn
    have HF := Lib.hid (fun (W : World) (h : Rgs W W.heap.size A n xs) => form_any A n c xs W h (by omega))
    go_enter Tryz.func16, Tryz.ntmps16
    go_wp2
    go_loopw [3, 4] (fun i _ wr => ∃ j : Nat, j ≤ n ∧ i = .int .i64 j ∧ (xs.take j).any (fun r => checkOne r != 0) = false ∧ Below w.heap.size w wr) (fun i _ _ => n - (intOf i).toNat)
    case atStart => exact ⟨0, Nat.zero_le _, rfl, by simp, Below.refl _ _⟩
    case round =>
      obtain ⟨j, hj, rfl, hno, hb⟩ := hrel
      by_cases hlt : j < n
      · obtain ⟨b, off, r, rfl, hbl, hxj, d0, d1, d2, d3⟩ := (hr.below hb).reg hlt
        have HX := Lib.hid hxj; clear hxj
        have HN := Lib.hid hno; clear hno
        have HR := Lib.hid hr; clear hr
        have hv := fun W => valid_any r W
        unfold Reg.val at hv
        have HV := Lib.hid hv; clear hv
        by_cases hc : checkOne r = 0
        · have HC := Lib.hid hc; clear hc
          go_wp2_with (go_at_call 39; refine (HV.out _).mono ?_; rintro e w1 ⟨rfl, hb1⟩; rw [HC.out])
          go_roundw
          case rel => exact ⟨j + 1, by omega, by go_num, any_step HX.out HN.out (by simp [HC.out]), hb.trans (hb1.mono hb.size)⟩
          case measure => simp [intOf]; omega
        · have hcb : (checkOne r == 0) = false := by simp [hc]
          have hcn : (checkOne r != 0) = true := by simp [hc]
          have HC := Lib.hid hc; clear hc
          go_wp2_with (go_at_call 39; refine (HV.out _).mono ?_; rintro e w1 ⟨rfl, hb1⟩)
          go_ret
          refine ⟨ret_int ?_, hb.trans (hb1.mono hb.size)⟩
          rw [HNL.out]
          rw [find_at HX.out HN.out hcn]
      · have hno2 : xs.find? (fun r => checkOne r != 0) = none := by
          rw [take_all HXN.out (by omega)] at hno
          exact List.find?_eq_none.2 (fun x hx => List.any_eq_false.1 hno x hx)
        rw [hno2] at HNL
        simp only at HNL
        clear hno hno2
        have HR := Lib.hid hr; clear hr
        by_cases he : formL xs = xs
        · have hd : decide (formL xs = xs) = true := by simp [he]
          rw [if_pos he] at HNL
          clear he
          go_wp2_with (first
            | (go_at_call 41; refine (HF.out _ ((HR.out.below hb).more hb.size)).mono ?_; rintro e w1 ⟨A1, c1, rfl, ho1, hb1⟩)
            | (go_at_call 43; refine (rSame_any A1 A _ _ c1 c (formL xs) xs _ (ho1.sl Reg.vals_len) ((HR.out.below (hb.trans (hb1.mono hb.size))).more (Nat.le_trans hb.size hb1.size)) HFL.out hn).mono ?_; rintro e w2 ⟨rfl, q, rfl⟩; rw [hd]))
          go_ret
          exact ⟨ret_int HNL.out.symm, bdN (hb.trans (hb1.mono hb.size)) q⟩
        · have hd : decide (formL xs = xs) = false := by simp [he]
          rw [if_neg he] at HNL
          clear he
          go_wp2_with (first
            | (go_at_call 41; refine (HF.out _ ((HR.out.below hb).more hb.size)).mono ?_; rintro e w1 ⟨A1, c1, rfl, ho1, hb1⟩)
            | (go_at_call 43; refine (rSame_any A1 A _ _ c1 c (formL xs) xs _ (ho1.sl Reg.vals_len) ((HR.out.below (hb.trans (hb1.mono hb.size))).more (Nat.le_trans hb.size hb1.size)) HFL.out hn).mono ?_; rintro e w2 ⟨rfl, q, rfl⟩; rw [hd]))
          go_ret
          exact ⟨ret_int HNL.out.symm, bdN (hb.trans (hb1.mono hb.size)) q⟩
end Go.Proofs.YtiefdlfninhbgaaGreatDoor
