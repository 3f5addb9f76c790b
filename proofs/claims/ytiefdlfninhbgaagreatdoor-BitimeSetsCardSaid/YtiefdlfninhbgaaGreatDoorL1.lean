/- The law BitimeSets: its walk. -/
import Derived.Test.YtiefdlfninhbgaaGreatDoorAw
import Derived.Test.YtiefdlfninhbgaaGreatDoorRA
import Derived.Test.YtiefdlfninhbgaaGreatDoorG1
namespace Go.Proofs.YtiefdlfninhbgaaGreatDoor
open Go.RowKit Go.Shelf

theorem pNormL_len (xs : List Reg) : (pNormL xs).1.length ≤ 400 := by
  unfold pNormL
  split
  · simp
  · split
    · simp
    · exact limL_len _
theorem equalR_same1 (A A' : Option Addr) (n m c c' : Nat) (xs : List Reg) (w : World) (hx : Rgs w w.heap.size A n xs) (hy : Rgs w w.heap.size A' m xs) (hn : n ≤ 1000000000) (hm : m ≤ 1000000000) :
    Calls Tryz.prog 17 #[.slice A n c, .slice A' m c'] w fun e w' => e = .returned (.bool true) ∧ Below w.heap.size w w' := by
  refine (equalR_any A A' n m c c' xs xs w hx hy hn hm).mono ?_
  rintro e w' ⟨rfl, z, rfl⟩
  exact ⟨by simp, bdN (Below.refl _ _) z⟩

set_option maxRecDepth 100000 in
set_option maxHeartbeats 4000000 in
theorem sets_law (Aa : Option Addr) (na ca : Nat) (xs : List Reg) (d k : Int) (w : World) (hp : Pow w) (ha : Rgs w w.heap.size Aa na xs) (hna : na ≤ maxLen) :
    Calls Tryz.prog 3 #[.slice Aa na ca, .int .i64 d, .int .i64 k] w fun e w' => e = .returned (.bool true) ∧ Below w.heap.size w w' := by
  have HG1 := Lib.hid (fun W => great_big Aa na ca W hna)
  clear hna
  cases hg1 : great na with
  | true =>
    rw [hg1] at HG1
    have HA := Lib.hid (awake_any w)
    clear hg1 ha hp
    go_enter Tryz.func3, Tryz.ntmps3
    go_wp2_with (first
      | (go_at_call 9; refine (HG1.out _).mono ?_; rintro e w1 ⟨rfl, rfl⟩)
      | (go_at_call 10; refine HA.out.mono ?_; rintro e w2 ⟨rfl, hb2⟩))
    go_ret
    exact ⟨rfl, hb2⟩
  | false =>
    rw [hg1] at HG1
    have h1 := great_no hg1
    clear hg1
    have HN := Lib.hid (Normal_any Aa na ca xs w ha (by omega))
    have HM := Lib.hid (fun (W : World) (h : Below w.heap.size w W) => rNormal_any Aa na ca xs W (ha.here h) (by omega))
    have HR := Lib.hid (fun (W : World) (h : Below w.heap.size w W) => Area_full Aa na ca xs W (hp.here h) (ha.here h) (by omega))
    have HS := Lib.hid (fun (W : World) (h : Below w.heap.size w W) => rArea_any Aa na ca xs W (ha.here h) (by omega))
    have HC := Lib.hid (fun (W : World) (h : Below w.heap.size w W) => Check_any Aa na ca xs W (ha.here h) (by omega))
    have HD := Lib.hid (fun (W : World) (h : Below w.heap.size w W) => rCheck_any Aa na ca xs W (ha.here h) (by omega))
    have HH := Lib.hid (fun (W : World) (h : Below w.heap.size w W) => Has_any Aa na ca xs d k W (ha.here h) (by omega))
    have HI := Lib.hid (fun (W : World) (h : Below w.heap.size w W) => rHas_any Aa na ca xs d k W (ha.here h) (by omega))
    rw [← pNormL_eq] at HM
    rw [← pCheckL_eq] at HD
    have ln := pNormL_len xs
    generalize pNormL xs = u at *
    generalize pAreaL xs = ar at *
    generalize pCheckL xs = pc at *
    generalize hasL xs d k = hs at *
    obtain ⟨ul, ue⟩ := u
    obtain ⟨al, ae⟩ := ar
    simp only at ln
    clear ha hp
    have e1 : (ue == ue) = true := by simp
    have e2 : (ae == ae) = true := by simp
    have e3 : (pc == pc) = true := by simp
    have e4 : (hs == hs) = true := by simp
    unfold S at HR HS
    simp only at HR HS
    go_enter Tryz.func3, Tryz.ntmps3
    go_wp2_with (first
      | (go_at_call 9; refine (HG1.out _).mono ?_; rintro e w0 ⟨rfl, rfl⟩)
      | (go_at_call 11; refine HN.out.mono ?_; rintro e w1 ⟨A1, c1, rfl, ho1, hb1⟩)
      | (go_at_call 12; refine (HM.out _ hb1).mono ?_; rintro e w2 ⟨A2, c2, rfl, ho2, hb2⟩; have hb02 := hb1.trans (hb2.mono hb1.size))
      | (go_at_call 13; refine (HR.out _ hb02).mono ?_; rintro e w3 ⟨rfl, hb3⟩; have hb03 := hb02.trans (hb3.mono hb02.size))
      | (go_at_call 14; refine (HS.out _ hb03).mono ?_; rintro e w4 ⟨rfl, hb4⟩; have hb04 := hb03.trans (hb4.mono hb03.size))
      | (go_at_call 15; refine (HC.out _ hb04).mono ?_; rintro e w5 ⟨rfl, hb5⟩; have hb05 := hb04.trans (hb5.mono hb04.size))
      | (go_at_call 16; refine (HD.out _ hb05).mono ?_; rintro e w6 ⟨rfl, hb6⟩; have hb06 := hb05.trans (hb6.mono hb05.size))
      | (go_at_call 17
         refine (equalR_same1 A1 A2 _ _ c1 c2 ul w6 ((((((ho1.below hb2).below hb3).below hb4).below hb5).below hb6).sl Reg.vals_len) (((((ho2.below hb3).below hb4).below hb5).below hb6).sl Reg.vals_len) (by omega) (by omega)).mono ?_
         rintro e w7 ⟨rfl, hb7⟩
         have hb07 := hb06.trans (hb7.mono hb06.size))
      | (go_at_call 18; refine (HH.out _ hb07).mono ?_; rintro e w8 ⟨rfl, hb8⟩; have hb08 := hb07.trans (hb8.mono hb07.size))
      | (go_at_call 19; refine (HI.out _ hb08).mono ?_; rintro e w9 ⟨rfl, hb9⟩; have hb09 := hb08.trans (hb9.mono hb08.size))
      | (go_at_call 10; refine (awake_any _).mono ?_; rintro e wa ⟨rfl, hba⟩))
    go_ret
    exact ⟨rfl, hb09.trans (hba.mono hb09.size)⟩
end Go.Proofs.YtiefdlfninhbgaaGreatDoor
