/- The law BitimePairs: its walk. -/
import Derived.Test.YtiefdlfninhbgaaGreatDoorAw
import Derived.Test.YtiefdlfninhbgaaGreatDoorW10
import Derived.Test.YtiefdlfninhbgaaGreatDoorG1
namespace Go.Proofs.YtiefdlfninhbgaaGreatDoor
open Go.RowKit Go.Shelf

theorem equalR_same (A A' : Option Addr) (n m c c' : Nat) (xs : List Reg) (w : World) (hx : Rgs w w.heap.size A n xs) (hy : Rgs w w.heap.size A' m xs) (hn : n ≤ 1000000000) (hm : m ≤ 1000000000) :
    Calls Tryz.prog 17 #[.slice A n c, .slice A' m c'] w fun e w' => e = .returned (.bool true) ∧ Below w.heap.size w w' := by
  refine (equalR_any A A' n m c c' xs xs w hx hy hn hm).mono ?_
  rintro e w' ⟨rfl, z, rfl⟩
  exact ⟨by simp, bdN (Below.refl _ _) z⟩
set_option maxHeartbeats 2000000 in
theorem pairs_law (Aa Ab : Option Addr) (na nb ca cb : Nat) (xs ys : List Reg) (w : World) (ha : Rgs w w.heap.size Aa na xs) (hb : Rgs w w.heap.size Ab nb ys) (hna : na ≤ maxLen) (hnb : nb ≤ maxLen) :
    Calls Tryz.prog 4 #[.slice Aa na ca, .slice Ab nb cb] w fun e w' => e = .returned (.bool true) ∧ Below w.heap.size w w' := by
  have HG1 := Lib.hid (fun W => great_big Aa na ca W hna)
  have HG2 := Lib.hid (fun W => great_big Ab nb cb W hnb)
  clear hna hnb
  cases hg1 : great na with
  | true =>
    rw [hg1] at HG1
    have HA := Lib.hid (awake_any w)
    clear hg1 ha hb HG2
    go_enter Tryz.func4, Tryz.ntmps4
    go_wp2_with (first
      | (go_at_call 9; refine (HG1.out _).mono ?_; rintro e w1 ⟨rfl, rfl⟩)
      | (go_at_call 10; refine HA.out.mono ?_; rintro e w2 ⟨rfl, hb2⟩))
    go_ret
    exact ⟨rfl, hb2⟩
  | false =>
    rw [hg1] at HG1
    cases hg2 : great nb with
    | true =>
      rw [hg2] at HG2
      have HA := Lib.hid (awake_any w)
      clear hg1 hg2 ha hb
      go_enter Tryz.func4, Tryz.ntmps4
      go_wp2_with (first
        | (go_at_call_of 9 (Value.slice Aa na ca); refine (HG1.out _).mono ?_; rintro e w1 ⟨rfl, rfl⟩)
        | (go_at_call_of 9 (Value.slice Ab nb cb); refine (HG2.out _).mono ?_; rintro e w1 ⟨rfl, rfl⟩)
        | (go_at_call 10; refine HA.out.mono ?_; rintro e w2 ⟨rfl, hb2⟩))
      go_ret
      exact ⟨rfl, hb2⟩
    | false =>
      rw [hg2] at HG2
      have h1 := great_no hg1
      have h2 := great_no hg2
      clear hg1 hg2
      have HU := Lib.hid (fun (W : World) (h : Below w.heap.size w W) => Unite_any Aa Ab na nb ca cb xs ys W ((ha.below h).more h.size) ((hb.below h).more h.size) (by omega) (by omega))
      have HV := Lib.hid (fun (W : World) (h : Below w.heap.size w W) => rUnite_any Aa Ab na nb ca cb xs ys W ((ha.below h).more h.size) ((hb.below h).more h.size) (by omega) (by omega))
      have HM := Lib.hid (fun (W : World) (h : Below w.heap.size w W) => Minus_any Aa Ab na nb ca cb xs ys W ((ha.below h).more h.size) ((hb.below h).more h.size) (by omega) (by omega))
      have HN := Lib.hid (fun (W : World) (h : Below w.heap.size w W) => rMinus_any Aa Ab na nb ca cb xs ys W ((ha.below h).more h.size) ((hb.below h).more h.size) (by omega) (by omega))
      have HC := Lib.hid (fun (W : World) (h : Below w.heap.size w W) => Common_any Aa Ab na nb ca cb xs ys W ((ha.below h).more h.size) ((hb.below h).more h.size) (by omega) (by omega))
      have HD := Lib.hid (fun (W : World) (h : Below w.heap.size w W) => rCommon_any Aa Ab na nb ca cb xs ys W ((ha.below h).more h.size) ((hb.below h).more h.size) (by omega) (by omega))
      have lu := pOper_len (fun x y => x || y) xs ys
      have lm := pOper_len (fun x y => x && !y) xs ys
      have lc := pOper_len (fun x y => x && y) xs ys
      generalize pOper (fun x y => x || y) xs ys = u at *
      generalize pOper (fun x y => x && !y) xs ys = m at *
      generalize pOper (fun x y => x && y) xs ys = k at *
      obtain ⟨ul, ue⟩ := u
      obtain ⟨ml, me⟩ := m
      obtain ⟨kl, ke⟩ := k
      simp only at lu lm lc
      clear ha hb h1 h2
      go_enter Tryz.func4, Tryz.ntmps4
      go_wp2_with (first
        | (go_at_call_of 9 (Value.slice Aa na ca); refine (HG1.out _).mono ?_; rintro e w0 ⟨rfl, rfl⟩)
        | (go_at_call_of 9 (Value.slice Ab nb cb); refine (HG2.out _).mono ?_; rintro e w0 ⟨rfl, rfl⟩)
        | (go_at_call 20; refine (HU.out _ (Below.refl _ _)).mono ?_; rintro e w1 ⟨A1, c1, rfl, ho1, hb1⟩)
        | (go_at_call 21; refine (HV.out _ hb1).mono ?_; rintro e w2 ⟨A2, c2, rfl, ho2, hb2⟩; have hb02 := hb1.trans (hb2.mono hb1.size))
        | (go_at_call 22; refine (HM.out _ hb02).mono ?_; rintro e w3 ⟨A3, c3, rfl, ho3, hb3⟩; have hb03 := hb02.trans (hb3.mono hb02.size))
        | (go_at_call 23; refine (HN.out _ hb03).mono ?_; rintro e w4 ⟨A4, c4, rfl, ho4, hb4⟩; have hb04 := hb03.trans (hb4.mono hb03.size))
        | (go_at_call 24; refine (HC.out _ hb04).mono ?_; rintro e w5 ⟨A5, c5, rfl, ho5, hb5⟩; have hb05 := hb04.trans (hb5.mono hb04.size))
        | (go_at_call 25; refine (HD.out _ hb05).mono ?_; rintro e w6 ⟨A6, c6, rfl, ho6, hb6⟩; have hb06 := hb05.trans (hb6.mono hb05.size)))
      have q1 := ((((((ho1.below hb2).below hb3).below hb4).below hb5).below hb6).sl Reg.vals_len)
      have q2 := (((((ho2.below hb3).below hb4).below hb5).below hb6).sl Reg.vals_len)
      have q3 := ((((ho3.below hb4).below hb5).below hb6).sl Reg.vals_len)
      have q4 := (((ho4.below hb5).below hb6).sl Reg.vals_len)
      have q5 := ((ho5.below hb6).sl Reg.vals_len)
      have q6 := (ho6.sl Reg.vals_len)
      try simp only at q1 q2 q3 q4 q5 q6
      refine (equalR_same A1 A2 _ _ c1 c2 ul w6 q1 q2 (by omega) (by omega)).mono ?_
      rintro e w7 ⟨rfl, hb7⟩
      have e1 : (ue == ue) = true := by simp
      have e2 : (me == me) = true := by simp
      have e3 : (ke == ke) = true := by simp
      go_wp2_with fail
      refine (equalR_same A3 A4 _ _ c3 c4 ml _ (q3.here hb7) (q4.here hb7) (by omega) (by omega)).mono ?_
      rintro e w8 ⟨rfl, hb8⟩
      go_wp2_with fail
      refine (equalR_same A5 A6 _ _ c5 c6 kl _ ((q5.here hb7).here hb8) ((q6.here hb7).here hb8) (by omega) (by omega)).mono ?_
      rintro e w9 ⟨rfl, hb9⟩
      go_wp2_with fail
      refine (awake_any _).mono ?_
      rintro e wa ⟨rfl, hba⟩
      go_wp2_with fail
      go_ret
      exact ⟨rfl, hb06.trans ((hb7.trans ((hb8.trans ((hb9.trans (hba.mono hb9.size)).mono hb8.size)).mono hb7.size)).mono hb06.size)⟩
end Go.Proofs.YtiefdlfninhbgaaGreatDoor
