/- Contracts of the program's normal, limited, Check, Normal, operate, Unite, Minus, Common. -/
import Derived.Test.YtiefdlfninhbgaaGreatDoorP7
import Derived.Test.YtiefdlfninhbgaaGreatDoorW1
namespace Go.Proofs.YtiefdlfninhbgaaGreatDoor
open Go.RowKit Go.Shelf

def pNormal (xs : List Reg) : List Reg := combL (fun x _ => x) xs []
def pNormL (xs : List Reg) : List Reg × Int := if 400 < xs.length then ([], 4) else if xs.any (fun r => checkOne r != 0) then ([], 1) else limL (pNormal xs)
def pCheckL (xs : List Reg) : Int := if 400 < xs.length then 4 else match xs.find? (fun r => checkOne r != 0) with | some r => checkOne r | none => if pNormal xs = xs then 0 else 8
def pOper (cond : Bool → Bool → Bool) (xs ys : List Reg) : List Reg × Int := if pCheckL xs = 0 ∧ pCheckL ys = 0 then limL (combL cond xs ys) else ([], 1)
theorem combL_len (cond : Bool → Bool → Bool) (xs ys : List Reg) (h : xs.length ≤ 1000) (h' : ys.length ≤ 1000) : (combL cond xs ys).length ≤ 1000000000 := by
  unfold combL
  have h1 : (distL (numsOf (xs ++ ys))).length ≤ 4000 := Nat.le_trans (distL_len _) (by rw [numsOf_len, List.length_append]; omega)
  have h2 : (distL (daysOf (xs ++ ys))).length ≤ 4000 := Nat.le_trans (distL_len _) (by rw [daysOf_len, List.length_append]; omega)
  have h3 := combSt_len (nowL cond xs ys (distL (numsOf (xs ++ ys)))) 4000 (fun d => Nat.le_trans (spansL_len _ _) h1) (pairs (distL (daysOf (xs ++ ys))))
  rw [pairs_len] at h3
  have h4 := Nat.mul_le_mul_right 4000 (show (distL (daysOf (xs ++ ys))).length - 1 ≤ 4000 by omega)
  omega
theorem find_at' {α : Type} {p : α → Bool} {xs : List α} {j : Nat} {r : α} (h : xs[j]? = some r) (hn : (xs.take j).any p = false) (hp : p r = true) : xs.find? p = some r := by
  induction xs generalizing j with
  | nil => simp at h
  | cons a xs ih =>
    cases j with
    | zero => simp at h; subst h; simp [hp]
    | succ j =>
      simp only [List.take_succ_cons, List.any_cons, Bool.or_eq_false_iff] at hn
      rw [List.find?_cons, hn.1]
      exact ih (by simpa using h) hn.2

theorem normal_any (A : Option Addr) (n c : Nat) (xs : List Reg) (w : World) (hr : Rgs w w.heap.size A n xs) (hn : n ≤ 1000) :
    Calls Tryz.prog 38 #[.slice A n c] w (RetOwn Reg.vals 4 35 w.heap.size w (pNormal xs)) := by
  have H := Lib.hid (combine_any 58 (fun x _ => x) cond_normal A none n 0 c 0 xs [] w hr Sl.nil hn (by omega))
  clear hr
  go_enter Tryz.func38, Tryz.ntmps38
  go_wp2_with (go_at_call 57; refine H.out.mono ?_; rintro e w1 ⟨A1, c1, rfl, ho1, hb1⟩)
  go_ret
  exact RetOwn.mk rfl ho1 hb1

set_option maxHeartbeats 400000 in
theorem limited_any (base : Nat) (A : Option Addr) (n c : Nat) (xs : List Reg) (w : World) (ho : Own Reg.vals 4 35 w base (.slice A n c) xs) (hn : n ≤ 1000000000) :
    Calls Tryz.prog 37 #[.slice A n c] w (RetOwn2 Reg.vals 4 35 base w (limL xs)) := by
  obtain ⟨rfl, _⟩ := ho.facts
  have HO := Lib.hid ho; clear ho
  by_cases h : 400 < xs.length
  · have HL := Lib.hid (show limL xs = ([], 4) by unfold limL; rw [if_pos h])
    go_enter Tryz.func37, Tryz.ntmps37
    go_wp2
    go_ret2
    exact RetOwn2.mk rfl HL.out Own.nil (Below.refl _ _)
  · have HL := Lib.hid (show limL xs = (xs, 0) by unfold limL; rw [if_neg h])
    go_enter Tryz.func37, Tryz.ntmps37
    go_wp2
    go_ret2
    exact RetOwn2.mk rfl HL.out HO.out (Below.refl _ _)

set_option maxHeartbeats 400000 in
theorem Check_any (A : Option Addr) (n c : Nat) (xs : List Reg) (w : World) (hr : Rgs w w.heap.size A n xs) (hn : n ≤ 1000000000) :
    Calls Tryz.prog 15 #[.slice A n c] w fun e w' => e = .returned (.int .i64 (pCheckL xs)) ∧ Below w.heap.size w w' := by
  have hxn := hr.1
  by_cases h : 400 < n
  · have HL := Lib.hid (show pCheckL xs = 4 by unfold pCheckL; rw [if_pos (by omega)])
    have HR := Lib.hid hr; clear hr
    clear hxn
    go_enter Tryz.func15, Tryz.ntmps15
    go_wp2
    go_ret
    exact ⟨ret_int HL.out.symm, Below.refl _ _⟩
  · have HNL := Lib.hid (show pCheckL xs = match xs.find? (fun r => checkOne r != 0) with | some r => checkOne r | none => if pNormal xs = xs then 0 else 8 by unfold pCheckL; rw [if_neg (by omega)])
    have HFL := Lib.hid (combL_len (fun x _ => x) xs [] (by omega) (by simp))
    have HXN := Lib.hid hxn
    clear hxn
    have HF := Lib.hid (fun (W : World) (h : Rgs W W.heap.size A n xs) => normal_any A n c xs W h (by omega))
    go_enter Tryz.func15, Tryz.ntmps15
    go_wp2
    go_loopw [4, 5, 11] (fun _ _ i wr => ∃ j : Nat, j ≤ n ∧ i = .int .i64 j ∧ (xs.take j).any (fun r => checkOne r != 0) = false ∧ Below w.heap.size w wr) (fun _ _ i _ => n - (intOf i).toNat)
    case atStart => exact ⟨0, Nat.zero_le _, rfl, by simp, Below.refl _ _⟩
    case round =>
      obtain ⟨j, hj, rfl, hno, hb⟩ := hrel
      by_cases hlt : j < n
      · obtain ⟨b, off, r, rfl, hbl, hxj, d0, d1, d2, d3⟩ := (hr.below hb).reg hlt
        have HX := Lib.hid hxj; clear hxj
        have HN := Lib.hid hno; clear hno
        have HR := Lib.hid hr; clear hr
        have hv := fun W => checkOne_any r W
        unfold Reg.val at hv
        have HV := Lib.hid hv; clear hv
        have hb0 := hb.alloc hb.size (.cells #[.int .i64 r.fr, .int .i64 r.to, .int .i64 r.si, .int .i64 r.un] 35)
        by_cases hc : checkOne r = 0
        · have HC := Lib.hid hc; clear hc
          go_wp2_with (go_at_call 36; refine (HV.out _).mono ?_; rintro e w1 ⟨rfl, hb1⟩; rw [HC.out])
          go_roundw
          case rel => exact ⟨j + 1, by omega, by go_num, any_step HX.out HN.out (by simp [HC.out]), hb0.trans (hb1.mono hb0.size)⟩
          case measure => simp [intOf]; omega
        · have hcb : (checkOne r == 0) = false := by simp [hc]
          have hcn : (checkOne r != 0) = true := by simp [hc]
          have HC := Lib.hid hc; clear hc
          go_wp2_with (go_at_call 36; refine (HV.out _).mono ?_; rintro e w1 ⟨rfl, hb1⟩)
          go_ret
          refine ⟨ret_int ?_, hb0.trans (hb1.mono hb0.size)⟩
          rw [HNL.out, find_at' HX.out HN.out hcn]
      · have hno2 : xs.find? (fun r => checkOne r != 0) = none := by
          rw [take_all HXN.out (by omega)] at hno
          exact List.find?_eq_none.2 (fun x hx => List.any_eq_false.1 hno x hx)
        rw [hno2] at HNL
        simp only at HNL
        clear hno hno2
        have HR := Lib.hid hr; clear hr
        by_cases he : pNormal xs = xs
        · have hd : decide (pNormal xs = xs) = true := by simp [he]
          rw [if_pos he] at HNL
          clear he
          go_wp2_with (first
            | (go_at_call 38; refine (HF.out _ ((HR.out.below hb).more hb.size)).mono ?_; rintro e w1 ⟨A1, c1, rfl, ho1, hb1⟩)
            | (go_at_call 17; refine (equalR_any A1 A _ _ c1 c (pNormal xs) xs _ (ho1.sl Reg.vals_len) ((HR.out.below (hb.trans (hb1.mono hb.size))).more (Nat.le_trans hb.size hb1.size)) HFL.out hn).mono ?_; rintro e w2 ⟨rfl, q, rfl⟩; rw [hd]))
          go_ret
          exact ⟨ret_int HNL.out.symm, bdN (hb.trans (hb1.mono hb.size)) q⟩
        · have hd : decide (pNormal xs = xs) = false := by simp [he]
          rw [if_neg he] at HNL
          clear he
          go_wp2_with (first
            | (go_at_call 38; refine (HF.out _ ((HR.out.below hb).more hb.size)).mono ?_; rintro e w1 ⟨A1, c1, rfl, ho1, hb1⟩)
            | (go_at_call 17; refine (equalR_any A1 A _ _ c1 c (pNormal xs) xs _ (ho1.sl Reg.vals_len) ((HR.out.below (hb.trans (hb1.mono hb.size))).more (Nat.le_trans hb.size hb1.size)) HFL.out hn).mono ?_; rintro e w2 ⟨rfl, q, rfl⟩; rw [hd]))
          go_ret
          exact ⟨ret_int HNL.out.symm, bdN (hb.trans (hb1.mono hb.size)) q⟩

theorem Normal1_any (r : Reg) (w : World) : Calls Tryz.prog 35 #[r.val] w fun e w' => e = .returned (.bool (checkOne r != 0)) ∧ Below w.heap.size w w' := by
  have H := Lib.hid (fun W => checkOne_any r W)
  by_cases hc : checkOne r = 0
  · have HC := Lib.hid hc; clear hc
    unfold Reg.val at *
    go_enter Tryz.func35, Tryz.ntmps35
    go_wp2_with (go_at_call 36; refine (H.out _).mono ?_; rintro e w1 ⟨rfl, hb1⟩; rw [HC.out])
    go_ret
    exact ⟨ret_bool (by simp [HC.out]), ((Below.refl _ w).alloc (Nat.le_refl _) _).trans (hb1.mono (by simp))⟩
  · have hcb : (checkOne r == 0) = false := by simp [hc]
    have hcn : (checkOne r != 0) = true := by simp [hc]
    clear hc
    unfold Reg.val at *
    go_enter Tryz.func35, Tryz.ntmps35
    go_wp2_with (go_at_call 36; refine (H.out _).mono ?_; rintro e w1 ⟨rfl, hb1⟩)
    go_ret
    exact ⟨ret_bool (by simp [hcn]), ((Below.refl _ w).alloc (Nat.le_refl _) _).trans (hb1.mono (by simp))⟩

set_option maxHeartbeats 400000 in
theorem Normal_any (A : Option Addr) (n c : Nat) (xs : List Reg) (w : World) (hr : Rgs w w.heap.size A n xs) (hn : n ≤ 1000000000) :
    Calls Tryz.prog 11 #[.slice A n c] w (RetOwn2 Reg.vals 4 35 w.heap.size w (pNormL xs)) := by
  have hxn := hr.1
  by_cases h : 400 < n
  · have HL := Lib.hid (show pNormL xs = ([], 4) by unfold pNormL; rw [if_pos (by omega)])
    have HR := Lib.hid hr; clear hr
    clear hxn
    go_enter Tryz.func11, Tryz.ntmps11
    go_wp2
    go_ret2
    exact RetOwn2.mk rfl HL.out Own.nil (Below.refl _ _)
  · have HNL := Lib.hid (show pNormL xs = if xs.any (fun r => checkOne r != 0) then ([], 1) else limL (pNormal xs) by unfold pNormL; rw [if_neg (by omega)])
    have HFL := Lib.hid (combL_len (fun x _ => x) xs [] (by omega) (by simp))
    clear hxn
    have eg : ∀ args w, (callFunc 35 args).run Tryz.prog w = .ok (.enter 35 args) w := enters_of Tryz.func35 (by kernel_rfl) rfl
    have HC := Lib.hid (containsFunc_any 35 #[] (fun r => checkOne r != 0) A n c xs w eg (fun W x _ => Normal1_any x W) hr hn)
    clear eg
    have HF := Lib.hid (fun (W : World) (h : Rgs W W.heap.size A n xs) => normal_any A n c xs W h (by omega))
    have HR := Lib.hid hr; clear hr
    cases hv : xs.any (fun r => checkOne r != 0) with
    | true =>
      rw [hv] at HC HNL
      clear hv
      simp only [if_true] at HNL
      go_enter Tryz.func11, Tryz.ntmps11
      go_wp2_with (go_at_call 34; refine HC.out.mono ?_; rintro e w1 ⟨rfl, hb1⟩)
      go_ret2
      exact RetOwn2.mk rfl HNL.out Own.nil hb1
    | false =>
      rw [hv] at HC HNL
      clear hv
      simp only [Bool.false_eq_true, if_false] at HNL
      go_enter Tryz.func11, Tryz.ntmps11
      go_wp2_with (first
        | (go_at_call 34; refine HC.out.mono ?_; rintro e w1 ⟨rfl, hb1⟩)
        | (go_at_call 38; refine (HF.out _ (HR.out.here hb1)).mono ?_; rintro e w2 ⟨A2, c2, rfl, ho2, hb2⟩)
        | (go_at_call 37; refine (limited_any w.heap.size A2 _ c2 (pNormal xs) _ (ho2.base_ hb1.size) HFL.out).mono ?_; rintro e w3 ⟨A3, c3, rfl, ho3, hb3⟩))
      go_ret2
      exact RetOwn2.mk rfl HNL.out ho3 (hb1.trans ((hb2.trans (hb3.mono hb2.size)).mono hb1.size))

theorem pCheckL_len {xs : List Reg} (h : pCheckL xs = 0) : xs.length ≤ 400 := by
  unfold pCheckL at h
  split at h
  · omega
  · omega

set_option maxHeartbeats 400000 in
theorem operate_any (g : Nat) (cond : Bool → Bool → Bool) (hc : Cond g cond) (Aa Ab : Option Addr) (na nb ca cb : Nat) (xs ys : List Reg) (w : World)
    (ha : Rgs w w.heap.size Aa na xs) (hb : Rgs w w.heap.size Ab nb ys) (hna : na ≤ 1000000000) (hnb : nb ≤ 1000000000) :
    Calls Tryz.prog 45 #[.slice Aa na ca, .slice Ab nb cb, .func (.func g) #[] #[]] w (RetOwn2 Reg.vals 4 35 w.heap.size w (pOper cond xs ys)) := by
  have HA := Lib.hid ha; have HB := Lib.hid hb; have HC := Lib.hid hc; clear ha hb hc
  have HCa := Lib.hid (fun W (h : Rgs W W.heap.size Aa na xs) => Check_any Aa na ca xs W h hna)
  have HCb := Lib.hid (fun W (h : Rgs W W.heap.size Ab nb ys) => Check_any Ab nb cb ys W h hnb)
  by_cases h1 : pCheckL xs = 0
  · by_cases h2 : pCheckL ys = 0
    · have l1 : na ≤ 1000 := by rw [HA.out.1]; have := pCheckL_len h1; omega
      have l2 : nb ≤ 1000 := by rw [HB.out.1]; have := pCheckL_len h2; omega
      have HL := Lib.hid (combL_len cond xs ys (by have := pCheckL_len h1; omega) (by have := pCheckL_len h2; omega))
      have HP := Lib.hid (show pOper cond xs ys = limL (combL cond xs ys) by unfold pOper; rw [if_pos ⟨h1, h2⟩])
      rw [h1] at HCa
      rw [h2] at HCb
      clear h1 h2
      go_enter Tryz.func45, Tryz.ntmps45
      go_wp2_with (first
        | (go_at_call_of 15 (Value.slice Aa na ca); refine (HCa.out _ HA.out).mono ?_; rintro e w1 ⟨rfl, hb1⟩)
        | (go_at_call_of 15 (Value.slice Ab nb cb); refine (HCb.out _ (HB.out.here hb1)).mono ?_; rintro e w2 ⟨rfl, hb2⟩)
        | (go_at_call 57; refine (combine_any g cond HC.out Aa Ab na nb ca cb xs ys _ ((HA.out.here hb1).here hb2) ((HB.out.here hb1).here hb2) l1 l2).mono ?_; rintro e w3 ⟨A3, c3, rfl, ho3, hb3⟩)
        | (go_at_call 37; refine (limited_any w.heap.size A3 _ c3 (combL cond xs ys) _ (ho3.base_ (Nat.le_trans hb1.size hb2.size)) HL.out).mono ?_; rintro e w4 ⟨A4, c4, rfl, ho4, hb4⟩))
      go_ret2
      exact RetOwn2.mk rfl HP.out ho4 (hb1.trans ((hb2.trans ((hb3.trans (hb4.mono hb3.size)).mono hb2.size)).mono hb1.size))
    · have HP := Lib.hid (show pOper cond xs ys = ([], 1) by unfold pOper; rw [if_neg (fun h => h2 h.2)])
      have hcb : (pCheckL ys == 0) = false := by simp [h2]
      have hcn : (pCheckL ys != 0) = true := by simp [h2]
      rw [h1] at HCa
      clear h1 h2
      go_enter Tryz.func45, Tryz.ntmps45
      go_wp2_with (first
        | (go_at_call_of 15 (Value.slice Aa na ca); refine (HCa.out _ HA.out).mono ?_; rintro e w1 ⟨rfl, hb1⟩)
        | (go_at_call_of 15 (Value.slice Ab nb cb); refine (HCb.out _ (HB.out.here hb1)).mono ?_; rintro e w2 ⟨rfl, hb2⟩))
      go_ret2
      exact RetOwn2.mk rfl HP.out Own.nil (hb1.trans (hb2.mono hb1.size))
  · have HP := Lib.hid (show pOper cond xs ys = ([], 1) by unfold pOper; rw [if_neg (fun h => h1 h.1)])
    have hcb : (pCheckL xs == 0) = false := by simp [h1]
    have hcn : (pCheckL xs != 0) = true := by simp [h1]
    clear h1
    go_enter Tryz.func45, Tryz.ntmps45
    go_wp2_with (go_at_call 15; refine (HCa.out _ HA.out).mono ?_; rintro e w1 ⟨rfl, hb1⟩)
    go_ret2
    exact RetOwn2.mk rfl HP.out Own.nil hb1

theorem Unite_any (Aa Ab : Option Addr) (na nb ca cb : Nat) (xs ys : List Reg) (w : World) (ha : Rgs w w.heap.size Aa na xs) (hb : Rgs w w.heap.size Ab nb ys) (hna : na ≤ 1000000000) (hnb : nb ≤ 1000000000) :
    Calls Tryz.prog 20 #[.slice Aa na ca, .slice Ab nb cb] w (RetOwn2 Reg.vals 4 35 w.heap.size w (pOper (fun x y => x || y) xs ys)) := by
  have H := Lib.hid (operate_any 46 _ cond_unite Aa Ab na nb ca cb xs ys w ha hb hna hnb)
  clear ha hb
  go_enter Tryz.func20, Tryz.ntmps20
  go_wp2_with (go_at_call 45; refine H.out.mono ?_; rintro e w1 ⟨A1, c1, rfl, ho1, hb1⟩)
  go_ret2
  exact RetOwn2.mk rfl rfl ho1 hb1
theorem Minus_any (Aa Ab : Option Addr) (na nb ca cb : Nat) (xs ys : List Reg) (w : World) (ha : Rgs w w.heap.size Aa na xs) (hb : Rgs w w.heap.size Ab nb ys) (hna : na ≤ 1000000000) (hnb : nb ≤ 1000000000) :
    Calls Tryz.prog 22 #[.slice Aa na ca, .slice Ab nb cb] w (RetOwn2 Reg.vals 4 35 w.heap.size w (pOper (fun x y => x && !y) xs ys)) := by
  have H := Lib.hid (operate_any 48 _ cond_minus Aa Ab na nb ca cb xs ys w ha hb hna hnb)
  clear ha hb
  go_enter Tryz.func22, Tryz.ntmps22
  go_wp2_with (go_at_call 45; refine H.out.mono ?_; rintro e w1 ⟨A1, c1, rfl, ho1, hb1⟩)
  go_ret2
  exact RetOwn2.mk rfl rfl ho1 hb1
theorem Common_any (Aa Ab : Option Addr) (na nb ca cb : Nat) (xs ys : List Reg) (w : World) (ha : Rgs w w.heap.size Aa na xs) (hb : Rgs w w.heap.size Ab nb ys) (hna : na ≤ 1000000000) (hnb : nb ≤ 1000000000) :
    Calls Tryz.prog 24 #[.slice Aa na ca, .slice Ab nb cb] w (RetOwn2 Reg.vals 4 35 w.heap.size w (pOper (fun x y => x && y) xs ys)) := by
  have H := Lib.hid (operate_any 49 _ cond_common Aa Ab na nb ca cb xs ys w ha hb hna hnb)
  clear ha hb
  go_enter Tryz.func24, Tryz.ntmps24
  go_wp2_with (go_at_call 45; refine H.out.mono ?_; rintro e w1 ⟨A1, c1, rfl, ho1, hb1⟩)
  go_ret2
  exact RetOwn2.mk rfl rfl ho1 hb1
end Go.Proofs.YtiefdlfninhbgaaGreatDoor
