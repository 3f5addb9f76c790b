/- Contract of the reference's add. -/
import Derived.Test.YtaiikjgoofefgaaGreatDoorQG1s8
import Derived.Test.YtaiikjgoofefgaaGreatDoorN10qG1s
namespace Go.Proofs.YtaiikjgoofefgaaGreatDoor
open Go.RowKit Go.Shelf

section
variable {w w' : World} {p q : Nat} {neg : Bool} {A : Option Addr} {n c : Nat}
theorem RNumB.set_ {neg' : Bool} {A' : Option Addr} {n' c' : Nat} (h : RNumB w p neg A n c) : RNumB ((w.setCell ⟨p, 0, none⟩ (.bool neg')).setCell ⟨p, 1, none⟩ (.slice A' n' c')) p neg' A' n' c' := by
  unfold RNumB at h ⊢
  rw [heap_setCell_same _ p 1 _ 69 _ (heap_setCell_same w p 0 _ 69 _ h)]
  rfl
/-- Groups of ints do not lie in a number's block. -/
theorem RNumB.apart {A0 : Option Addr} {n0 c0 B : Nat} {xs : List Nat} (h : RNumB w p neg A0 n0 c0) (hg : Gi w B A n xs) (u v : Value) : Gi ((w.setCell ⟨p, 0, none⟩ u).setCell ⟨p, 1, none⟩ v) B A n xs := by
  refine ⟨hg.1, fun hn => ?_⟩
  obtain ⟨b, off, e, hb, hc⟩ := hg.2 hn
  refine ⟨b, off, e, hb, fun i x hi j y hj => ?_⟩
  have hx := hc i x hi j y hj
  by_cases hbp : b = p
  · exfalso
    subst hbp
    have hr := cell_of_row w b (off + i * 1 + j) _ 69 (0, 0) h
    rw [hx] at hr
    have hy : y = .int .i64 x := by
      rcases j with _ | j
      · simp [G1] at hj; exact hj.symm
      · simp [G1] at hj
    subst hy
    generalize off + i * 1 + j = t at hr
    rcases t with _ | _ | t
    · simp at hr
    · simp at hr
    · simp at hr
  · rw [← hx]
    exact World.cell?_of_block ((Below.heap_setCell _ ⟨p, 1, none⟩ v b (by simpa using hbp)).trans (Below.heap_setCell w ⟨p, 0, none⟩ u b (by simpa using hbp)))
end
/-- The two numbers and the result of a call, in blocks of their own. -/
structure RN3 (w w' : World) (nx ny : Bool) (A A' : Option Addr) (n m c c' : Nat) : Prop where
  bl : Below w.heap.size w w'
  x : RNumB w' w.heap.size nx A n c
  y : RNumB w' (w.heap.size + 1) ny A' m c'
  z : RNumB w' (w.heap.size + 1 + 1) false none 0 0
section
variable {w w' w'' : World} {nx ny : Bool} {A A' : Option Addr} {n m c c' : Nat}
theorem RN3.here (h : RN3 w w' nx ny A A' n m c c') (hb : Below w'.heap.size w' w'') : RN3 w w'' nx ny A A' n m c c' :=
  ⟨h.bl.trans (hb.mono h.bl.size), h.x.here hb, h.y.here hb, h.z.here hb⟩
abbrev RNHeld (w w' : World) (nx ny : Bool) (A A' : Option Addr) (n m c c' : Nat) : Prop :=
  w'.cell? ⟨w.heap.size, 0, none⟩ = some (.bool nx) ∧ w'.cell? ⟨w.heap.size, 1, none⟩ = some (.slice A n c) ∧ w'.cell? ⟨w.heap.size + 1, 0, none⟩ = some (.bool ny) ∧ w'.cell? ⟨w.heap.size + 1, 1, none⟩ = some (.slice A' m c')
theorem RN3.held (h : RN3 w w' nx ny A A' n m c c') : RNHeld w w' nx ny A A' n m c c' := ⟨h.x.cells.1, h.x.cells.2, h.y.cells.1, h.y.cells.2⟩
theorem RN3.heldS (h : RN3 w w' nx ny A A' n m c c') (u v : Value) : RNHeld w ((w'.setCell ⟨w.heap.size + 1 + 1, 0, none⟩ u).setCell ⟨w.heap.size + 1 + 1, 1, none⟩ v) nx ny A A' n m c c' := by
  have hx := (h.x.far (a := ⟨w.heap.size + 1 + 1, 0, none⟩) (by simp; omega) u).far (a := ⟨w.heap.size + 1 + 1, 1, none⟩) (by simp; omega) v
  have hy := (h.y.far (a := ⟨w.heap.size + 1 + 1, 0, none⟩) (by simp) u).far (a := ⟨w.heap.size + 1 + 1, 1, none⟩) (by simp) v
  exact ⟨hx.cells.1, hx.cells.2, hy.cells.1, hy.cells.2⟩
theorem RN3.new (w : World) (nx ny : Bool) (A A' : Option Addr) (n m c c' : Nat) : RN3 w (((w.alloc (.cells #[.bool nx, .slice A n c] 69)).alloc (.cells #[.bool ny, .slice A' m c'] 69)).alloc (.cells #[.bool false, .slice none 0 0] 69)) nx ny A A' n m c c' := by
  refine ⟨(((Below.refl _ _).alloc (Nat.le_refl _) _).alloc (by simp) _).alloc (by simp; omega) _, ((RNumB.new w nx A n c).alloc _).alloc _, ?_, ?_⟩
  · have := (RNumB.new (w.alloc (.cells #[.bool nx, .slice A n c] 69)) ny A' m c').alloc (.cells #[.bool false, .slice none 0 0] 69)
    simpa using this
  · have := RNumB.new ((w.alloc (.cells #[.bool nx, .slice A n c] 69)).alloc (.cells #[.bool ny, .slice A' m c'] 69)) false none 0 0
    simpa using this
end
def RAddPost (s : Int) (w : World) (e : Ending) (w' : World) : Prop :=
  ∃ ng A n c xs r, e = .returned (.agg #[.bool ng, .slice A n c]) ∧ Gi w' w'.heap.size A n xs ∧ n ≤ c ∧ Mag xs r ∧ sv ng r = s ∧ Below w.heap.size w w'
set_option maxRecDepth 20000 in
set_option maxHeartbeats 2000000 in
theorem rAddN_any (nx ny : Bool) (A A' : Option Addr) (n m c c' : Nat) (xs ys : List Nat) (u v : Nat) (w : World) (hx : Gi w w.heap.size A n xs) (hy : Gi w w.heap.size A' m ys) (mx : Mag xs u) (my : Mag ys v) (hn : n ≤ 1000000) (hm : m ≤ 1000000) :
    Calls Tryz.prog 64 #[.agg #[.bool nx, .slice A n c], .agg #[.bool ny, .slice A' m c']] w (RAddPost (sv nx u + sv ny v) w) := by
  have HPO := Lib.hid (show RAddPost (sv nx u + sv ny v) w = fun e w' => ∃ ng A n c xs r, e = .returned (.agg #[.bool ng, .slice A n c]) ∧ Gi w' w'.heap.size A n xs ∧ n ≤ c ∧ Mag xs r ∧ sv ng r = sv nx u + sv ny v ∧ Below w.heap.size w w' from rfl)
  generalize RAddPost (sv nx u + sv ny v) w = post at *
  have H3 := Lib.hid (RN3.new w nx ny A A' n m c c')
  have HX := Lib.hid (hx.here H3.out.bl); have HY := Lib.hid (hy.here H3.out.bl); have HMX := Lib.hid mx; have HMY := Lib.hid my
  obtain ⟨p0, p1⟩ := H3.out.x.cells
  obtain ⟨q0, q1⟩ := H3.out.y.cells
  clear hx hy mx my
  go_enter Tryz.func64, Tryz.ntmps64
  by_cases hs : nx = ny
  · subst hs
    have hsb : (nx == nx) = true := by simp
    go_upto_region 2 with (fail)
    generalize ((w.alloc (.cells #[.bool nx, .slice A n c] 69)).alloc (.cells #[.bool nx, .slice A' m c'] 69)).alloc (.cells #[.bool false, .slice none 0 0] 69) = W0 at *
    have HPL := Lib.hid (rPlus_any A A' n m c c' xs ys u v W0.drew HX.out.drew HY.out.drew HMX.out HMY.out hn hm)
    have HSV := Lib.hid (show sv nx (u + v) = sv nx u + sv nx v by cases nx <;> simp [sv] <;> omega)
    go_region_held3 (fun w' => RNHeld w w' nx nx A A' n m c c')
      (first
        | exact (H3.out.here hbz).heldS _ _
        | exact (H3.out.here hbz).held
        | exact H3.out.held
        | go_keep)
      (first
        | (go_at_call 78; refine HPL.out.mono ?_; rintro e w1 ⟨A1, n1, c1, zs, rfl, hg1, hc1, mg1, hb1⟩
           have hbz : Below W0.heap.size W0 w1 := (Below.refl _ W0).drew.trans hb1
           have r0 := (H3.out.here hbz).z.cells.1
           have r1 := (H3.out.here hbz).z.cells.2
           have f0 := (H3.out.here hbz).z.frozen 0
           have f1 := (H3.out.here hbz).z.frozen 1
           have HG1 := Lib.hid hg1
           have HM1 := Lib.hid mg1
           clear hg1 mg1 hb1))
    all_goals
      go_wp2_with fail
      refine bodyPost_ret (v := .agg #[.bool nx, .slice A1 n1 c1]) (by simp [results, Tryz.results64, go_sem, r0, r1]) rfl ?_
      rw [HPO.out]
      have H4 := H3.out.here hbz
      have hW := H4.z.lt
      refine ⟨nx, A1, n1, c1, zs, u + v, rfl, ?_, hc1, HM1.out, HSV.out, (H4.bl.setCell (by simp only; omega) _).setCell (by simp only; omega) _⟩
      exact (H4.z.apart HG1.out _ _).more (by simp)
  · have hsb : (nx == ny) = false := by cases nx <;> cases ny <;> simp_all
    have HSS := Lib.hid hs; clear hs
    go_wp2_with fail
    generalize ((w.alloc (.cells #[.bool nx, .slice A n c] 69)).alloc (.cells #[.bool ny, .slice A' m c'] 69)).alloc (.cells #[.bool false, .slice none 0 0] 69) = W at *
    refine (rOrder_any A A' n m c c' xs ys u v W HX.out HY.out HMX.out HMY.out hn hm).mono ?_
    rintro e W0 ⟨rfl, hb0⟩
    clear p0 p1 q0 q1
    replace H3 := Lib.hid (H3.out.here hb0)
    replace HX := Lib.hid (HX.out.here hb0)
    replace HY := Lib.hid (HY.out.here hb0)
    obtain ⟨p0, p1⟩ := H3.out.x.cells
    obtain ⟨q0, q1⟩ := H3.out.y.cells
    obtain ⟨o, ho⟩ : ∃ o, o = sgnI ((u : Int) - v) := ⟨_, rfl⟩
    rw [← ho]
    by_cases huv : v ≤ u
    · have hd : decide (o ≥ 0) = true := by rw [ho, decide_eq_true_eq]; unfold sgnI; split <;> first | omega | (split <;> omega)
      have hd2 : o ≥ 0 := by simpa using hd
      clear ho
      go_upto_region 4 with (fail)
      have HPL := Lib.hid (rMinus_any A A' n m c c' xs ys u v W0.drew HX.out.drew HY.out.drew HMX.out HMY.out hn hm huv)
      have HSV := Lib.hid (show sv nx (u - v) = sv nx u + sv ny v by have h1 := HSS.out; cases nx <;> cases ny <;> simp_all [sv] <;> omega)
      go_region_held3 (fun w' => RNHeld w w' nx ny A A' n m c c')
        (first
          | exact (H3.out.here hbz).heldS _ _
          | exact (H3.out.here hbz).held
          | exact H3.out.held
          | go_keep)
        (first
          | (go_at_call 80; refine HPL.out.mono ?_; rintro e w1 ⟨A1, n1, c1, zs, rfl, hg1, hc1, mg1, hb1⟩
             have hbz : Below W0.heap.size W0 w1 := (Below.refl _ W0).drew.trans hb1
             have r0 := (H3.out.here hbz).z.cells.1
             have r1 := (H3.out.here hbz).z.cells.2
             have f0 := (H3.out.here hbz).z.frozen 0
             have f1 := (H3.out.here hbz).z.frozen 1
             have HG1 := Lib.hid hg1
             have HM1 := Lib.hid mg1
             clear hg1 mg1 hb1))
      all_goals
        go_wp2_with fail
        refine bodyPost_ret (v := .agg #[.bool nx, .slice A1 n1 c1]) (by simp [results, Tryz.results64, go_sem, r0, r1]) rfl ?_
        rw [HPO.out]
        have H4 := H3.out.here hbz
        have hW := H4.z.lt
        refine ⟨nx, A1, n1, c1, zs, u - v, rfl, ?_, hc1, HM1.out, HSV.out, (H4.bl.setCell (by simp only; omega) _).setCell (by simp only; omega) _⟩
        exact (H4.z.apart HG1.out _ _).more (by simp)
    · have hd : decide (o ≥ 0) = false := by rw [ho, decide_eq_false_iff_not]; unfold sgnI; split <;> first | omega | (split <;> omega)
      have hd2 : ¬ o ≥ 0 := by simpa using hd
      clear ho
      go_upto_region 5 with (fail)
      have HPL := Lib.hid (rMinus_any A' A m n c' c ys xs v u W0.drew HY.out.drew HX.out.drew HMY.out HMX.out hm hn (by omega))
      have HSV := Lib.hid (show sv ny (v - u) = sv nx u + sv ny v by have h1 := HSS.out; cases nx <;> cases ny <;> simp_all [sv] <;> omega)
      go_region_held3 (fun w' => RNHeld w w' nx ny A A' n m c c')
        (first
          | exact (H3.out.here hbz).heldS _ _
          | exact (H3.out.here hbz).held
          | exact H3.out.held
          | go_keep)
        (first
          | (go_at_call 80; refine HPL.out.mono ?_; rintro e w1 ⟨A1, n1, c1, zs, rfl, hg1, hc1, mg1, hb1⟩
             have hbz : Below W0.heap.size W0 w1 := (Below.refl _ W0).drew.trans hb1
             have r0 := (H3.out.here hbz).z.cells.1
             have r1 := (H3.out.here hbz).z.cells.2
             have f0 := (H3.out.here hbz).z.frozen 0
             have f1 := (H3.out.here hbz).z.frozen 1
             have HG1 := Lib.hid hg1
             have HM1 := Lib.hid mg1
             clear hg1 mg1 hb1))
      all_goals
        go_wp2_with fail
        refine bodyPost_ret (v := .agg #[.bool ny, .slice A1 n1 c1]) (by simp [results, Tryz.results64, go_sem, r0, r1]) rfl ?_
        rw [HPO.out]
        have H4 := H3.out.here hbz
        have hW := H4.z.lt
        refine ⟨ny, A1, n1, c1, zs, v - u, rfl, ?_, hc1, HM1.out, HSV.out, (H4.bl.setCell (by simp only; omega) _).setCell (by simp only; omega) _⟩
        exact (H4.z.apart HG1.out _ _).more (by simp)
end Go.Proofs.YtaiikjgoofefgaaGreatDoor
