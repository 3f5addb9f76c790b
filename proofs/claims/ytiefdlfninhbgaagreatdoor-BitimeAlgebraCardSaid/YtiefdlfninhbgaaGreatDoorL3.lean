/- The law BitimeAlgebra: its walk (printed by gen_l3.py). -/
import Derived.Test.YtiefdlfninhbgaaGreatDoorA1
import Derived.Deep.DeepCutAuto
namespace Go.Proofs.YtiefdlfninhbgaaGreatDoor
open Go.RowKit Go.Shelf

set_option maxRecDepth 100000 in
set_option maxHeartbeats 20000000 in
theorem algebra_law (Aa Ab Ac : Option Addr) (na nb nc ca cb cc : Nat) (xs ys zs : List Reg) (w : World) (ha : Rgs w w.heap.size Aa na xs) (hb : Rgs w w.heap.size Ab nb ys) (hc : Rgs w w.heap.size Ac nc zs) (hna : na ≤ maxLen) (hnb : nb ≤ maxLen) (hnc : nc ≤ maxLen) :
    Calls Tryz.prog 5 #[.slice Aa na ca, .slice Ab nb cb, .slice Ac nc cc] w fun e w' => e = .returned (.bool true) ∧ Below w.heap.size w w' := by
  have hL0 := Sl.lit (enc := SlV.vals) (k := 1) w #[.slice Aa na ca, .slice Ab nb cb, .slice Ac nc cc] 22 [⟨Aa, na, ca⟩, ⟨Ab, nb, cb⟩, ⟨Ac, nc, cc⟩] rfl SlV.vals_len
  have hb0 : Below w.heap.size w (w.alloc (.cells #[.slice Aa na ca, .slice Ab nb cb, .slice Ac nc cc] 22)) := (Below.refl _ _).alloc (Nat.le_refl _) _
  have hRA : RgsAll (w.alloc (.cells #[.slice Aa na ca, .slice Ab nb cb, .slice Ac nc cc] 22)) (w.alloc (.cells #[.slice Aa na ca, .slice Ab nb cb, .slice Ac nc cc] 22)).heap.size [⟨Aa, na, ca⟩, ⟨Ab, nb, cb⟩, ⟨Ac, nc, cc⟩] [xs, ys, zs] := by
    refine ⟨rfl, fun i r x hr hx => ?_⟩
    match i, hr, hx with
    | 0, hr, hx => simp at hr hx; subst hr; subst hx; exact ha.here hb0
    | 1, hr, hx => simp at hr hx; subst hr; subst hx; exact hb.here hb0
    | 2, hr, hx => simp at hr hx; subst hr; subst hx; exact hc.here hb0
    | n + 3, hr, hx => simp at hr
  have HLN := Lib.hid (lnormal_any (some ⟨w.heap.size, 0, none⟩) 3 3 [⟨Aa, na, ca⟩, ⟨Ab, nb, cb⟩, ⟨Ac, nc, cc⟩] [xs, ys, zs] _ (by simpa using hL0) hRA (by omega) (fun r hr => by simp at hr; rcases hr with rfl | rfl | rfl <;> assumption))
  have HA := Lib.hid ha.1; have HB := Lib.hid hb.1; have HC := Lib.hid hc.1; have HB0 := Lib.hid hb0
  have ga : na ≤ 9223372036854775807 := hna
  have gb : nb ≤ 9223372036854775807 := hnb
  have gc : nc ≤ 9223372036854775807 := hnc
  clear hL0 hRA ha hb hc hb0 hna hnb hnc
  go_enter Tryz.func5, Tryz.ntmps5
  go_wp2_with fail
  generalize w.alloc (.cells #[.slice Aa na ca, .slice Ab nb cb, .slice Ac nc cc] 22) = W0 at *
  refine HLN.out.mono ?_
  rintro e w1 ⟨hb1, ⟨hno, rfl⟩ | ⟨hyes, A', c', rs, rfl, hoR, hoA⟩⟩
  · clear hno HLN
    have hb01 := HB0.out.trans (hb1.mono HB0.out.size)
    go_wp2_with (go_at_call 10; refine (awake_any _).mono ?_; rintro e w2 ⟨rfl, hb2⟩)
    go_ret
    exact ⟨rfl, hb01.trans (hb2.mono hb01.size)⟩
  · clear HLN
    have hb01 := HB0.out.trans (hb1.mono HB0.out.size)
    have HB01 := Lib.hid hb01; clear hb01
    by_cases h6 : na ≤ 6 ∧ nb ≤ 6 ∧ nc ≤ 6
    · obtain ⟨k1, k2, k3⟩ := h6
      simp only [List.all_cons, List.all_nil, Bool.and_true, Bool.and_eq_true] at hyes
      obtain ⟨hx1, hx2, hx3⟩ := okN_ok hyes.1
      obtain ⟨hy1, hy2, hy3⟩ := okN_ok hyes.2.1
      obtain ⟨hz1, hz2, hz3⟩ := okN_ok hyes.2.2
      have HLl := Lib.hid (show (xs ++ (ys ++ zs)).length ≤ 20 by have := HA.out; have := HB.out; have := HC.out; rw [List.length_append, List.length_append]; omega)
      have HLv := Lib.hid (show ∀ r ∈ xs ++ (ys ++ zs), checkOne r = 0 from fun r hr => by
        rcases List.mem_append.1 hr with h | h
        · exact hx3 r h
        · rcases List.mem_append.1 h with h | h
          · exact hy3 r h
          · exact hz3 r h)
      have n0 := NS.norm (xs := xs) HLl.out HLv.out (fun r hr => by simp [hr]) hx1
      have n1 := NS.norm (xs := ys) HLl.out HLv.out (fun r hr => by simp [hr]) hy1
      have n2 := NS.norm (xs := zs) HLl.out HLv.out (fun r hr => by simp [hr]) hz1
      generalize xs ++ (ys ++ zs) = L at *
      have hrl : rs.length = 3 := by have := hoR.facts.1; omega
      obtain ⟨r0, r1, r2, rfl⟩ : ∃ r0 r1 r2, rs = [r0, r1, r2] := by
        match rs, hrl with
        | [a, b, c], _ => exact ⟨a, b, c, rfl⟩
      have ho0 : Own Reg.vals 4 35 w1 W0.heap.size (.slice r0.A r0.n r0.c) (pNormL xs).1 := hoA.2 0 r0 _ rfl rfl
      have ho1 : Own Reg.vals 4 35 w1 W0.heap.size (.slice r1.A r1.n r1.c) (pNormL ys).1 := hoA.2 1 r1 _ rfl rfl
      have ho2 : Own Reg.vals 4 35 w1 W0.heap.size (.slice r2.A r2.n r2.c) (pNormL zs).1 := hoA.2 2 r2 _ rfl rfl
      have Rx0 := Lib.hid (show Rep L w1 (hasL xs) r0.A r0.n from ⟨_, n0, ho0.sl Reg.vals_len⟩)
      have Ry0 := Lib.hid (show Rep L w1 (hasL ys) r1.A r1.n from ⟨_, n1, ho1.sl Reg.vals_len⟩)
      have Rz0 := Lib.hid (show Rep L w1 (hasL zs) r2.A r2.n from ⟨_, n2, ho2.sl Reg.vals_len⟩)
      generalize hasL xs = fx at *
      generalize hasL ys = fy at *
      generalize hasL zs = fz at *
      obtain ⟨g, o1, s0, hA', hg, hs0, d0⟩ := (hoR.sl SlV.vals_len).slv (i := 0) (by omega)
      obtain ⟨g', o1', s1, hA2, _, hs1, d1⟩ := (hoR.sl SlV.vals_len).slv (i := 1) (by omega)
      obtain ⟨g'', o1'', s2, hA3, _, hs2, d2⟩ := (hoR.sl SlV.vals_len).slv (i := 2) (by omega)
      subst hA'
      injection hA2 with hA2
      injection hA2 with e1 e2
      subst e1; subst e2
      injection hA3 with hA3
      injection hA3 with e1 e2
      subst e1; subst e2
      simp at hs0 hs1 hs2
      subst hs0; subst hs1; subst hs2
      simp only [Nat.add_zero] at d0
      clear n0 n1 n2 ho0 ho1 ho2 hx1 hx2 hx3 hy1 hy2 hy3 hz1 hz2 hz3 hyes hrl hoA hoR HA HB HC HB0 hb1 ga gb gc
      have hbA := (Below.refl w1.heap.size w1).alloc (Nat.le_refl _) (.cells #[.bool true] 4)
      have HX := Lib.hid (Box.new w1 4 (.bool true))
      have d0' := (hbA.cell (p := ⟨g, o1, none⟩) hg).trans d0
      have d1' := (hbA.cell (p := ⟨g, o1 + 1, none⟩) hg).trans d1
      have d2' := (hbA.cell (p := ⟨g, o1 + 2, none⟩) hg).trans d2
      clear d0 d1 d2
      go_wp2_with fail
      go_quiet (fail)
      clear d0' d1' d2'
      have hbq : Below w1.heap.size w1 ((w1.alloc (.cells #[.bool true] 4)).drewN nq) := bdN hbA nq
      have HX0 := Lib.hid (HX.out.drewN nq)
      have Rx := Lib.hid (Rx0.out.here hbq); have Ry := Lib.hid (Ry0.out.here hbq); have Rz := Lib.hid (Rz0.out.here hbq)
      have HT0 := Lib.hid (HB01.out.trans (hbq.mono HB01.out.size))
      clear hbA HX hbq Rx0 Ry0 Rz0 HB01
      generalize (w1.alloc (.cells #[.bool true] 4)).drewN nq = V0 at *
      generalize w1.heap.size = bx at *
      have cbx := HX0.out.cell; have fbx := HX0.out.frozen
      go_wp2_with fail
      clear cbx fbx
      refine (do_any HLl.out HLv.out 20 _ op_unite r0.A r1.A r0.n r1.n r0.c r1.c _ _ bx _ Rx.out Ry.out HX0.out).mono ?_
      rintro e V1 ⟨At1, nt1, ct1, rfl, Rt1, hc⟩
      have Rx' := Lib.hid (Rx.out.here hc); clear Rx; have Rx := Rx'; clear Rx'
      have Ry' := Lib.hid (Ry.out.here hc); clear Ry; have Ry := Ry'; clear Ry'
      have Rz' := Lib.hid (Rz.out.here hc); clear Rz; have Rz := Rz'; clear Rz'
      have HX1 := Lib.hid (HX0.out.here hc); have HT1 := Lib.hid (HT0.out.trans (hc.mono HT0.out.size)); clear hc HX0 HT0
      have cbx := HX1.out.cell; have fbx := HX1.out.frozen
      go_wp2_with fail
      clear cbx fbx
      refine (do_any HLl.out HLv.out 20 _ op_unite r1.A r0.A r1.n r0.n r1.c r0.c _ _ bx _ Ry.out Rx.out HX1.out).mono ?_
      rintro e V2 ⟨At2, nt2, ct2, rfl, Rt2, hc⟩
      have Rx' := Lib.hid (Rx.out.here hc); clear Rx; have Rx := Rx'; clear Rx'
      have Ry' := Lib.hid (Ry.out.here hc); clear Ry; have Ry := Ry'; clear Ry'
      have Rz' := Lib.hid (Rz.out.here hc); clear Rz; have Rz := Rz'; clear Rz'
      have Rt1' := Lib.hid (Rt1.out.here hc); clear Rt1; have Rt1 := Rt1'; clear Rt1'
      have HX2 := Lib.hid (HX1.out.here hc); have HT2 := Lib.hid (HT1.out.trans (hc.mono HT1.out.size)); clear hc HX1 HT1
      have cbx := HX2.out.cell; have fbx := HX2.out.frozen
      go_wp2_with fail
      clear cbx fbx
      refine (eq_rep HLl.out At1 At2 nt1 nt2 ct1 ct2 _ _ _ Rt1.out Rt2.out (fun d k => by cases fx d k <;> cases fy d k <;> cases fz d k <;> rfl)).mono ?_
      rintro e V3 ⟨rfl, hc⟩
      clear Rt1
      clear Rt2
      have Rx' := Lib.hid (Rx.out.here hc); clear Rx; have Rx := Rx'; clear Rx'
      have Ry' := Lib.hid (Ry.out.here hc); clear Ry; have Ry := Ry'; clear Ry'
      have Rz' := Lib.hid (Rz.out.here hc); clear Rz; have Rz := Rz'; clear Rz'
      have HX3 := Lib.hid (HX2.out.here hc); have HT3 := Lib.hid (HT2.out.trans (hc.mono HT2.out.size)); clear hc HX2 HT2
      have cbx := HX3.out.cell; have fbx := HX3.out.frozen
      go_wp2_with fail
      clear cbx fbx
      refine (do_any HLl.out HLv.out 24 _ op_common r0.A r1.A r0.n r1.n r0.c r1.c _ _ bx _ Rx.out Ry.out HX3.out).mono ?_
      rintro e V4 ⟨At3, nt3, ct3, rfl, Rt3, hc⟩
      have Rx' := Lib.hid (Rx.out.here hc); clear Rx; have Rx := Rx'; clear Rx'
      have Ry' := Lib.hid (Ry.out.here hc); clear Ry; have Ry := Ry'; clear Ry'
      have Rz' := Lib.hid (Rz.out.here hc); clear Rz; have Rz := Rz'; clear Rz'
      have HX4 := Lib.hid (HX3.out.here hc); have HT4 := Lib.hid (HT3.out.trans (hc.mono HT3.out.size)); clear hc HX3 HT3
      have cbx := HX4.out.cell; have fbx := HX4.out.frozen
      go_wp2_with fail
      clear cbx fbx
      refine (do_any HLl.out HLv.out 24 _ op_common r1.A r0.A r1.n r0.n r1.c r0.c _ _ bx _ Ry.out Rx.out HX4.out).mono ?_
      rintro e V5 ⟨At4, nt4, ct4, rfl, Rt4, hc⟩
      have Rx' := Lib.hid (Rx.out.here hc); clear Rx; have Rx := Rx'; clear Rx'
      have Ry' := Lib.hid (Ry.out.here hc); clear Ry; have Ry := Ry'; clear Ry'
      have Rz' := Lib.hid (Rz.out.here hc); clear Rz; have Rz := Rz'; clear Rz'
      have Rt3' := Lib.hid (Rt3.out.here hc); clear Rt3; have Rt3 := Rt3'; clear Rt3'
      have HX5 := Lib.hid (HX4.out.here hc); have HT5 := Lib.hid (HT4.out.trans (hc.mono HT4.out.size)); clear hc HX4 HT4
      have cbx := HX5.out.cell; have fbx := HX5.out.frozen
      go_wp2_with fail
      clear cbx fbx
      refine (eq_rep HLl.out At3 At4 nt3 nt4 ct3 ct4 _ _ _ Rt3.out Rt4.out (fun d k => by cases fx d k <;> cases fy d k <;> cases fz d k <;> rfl)).mono ?_
      rintro e V6 ⟨rfl, hc⟩
      clear Rt3
      clear Rt4
      have Rx' := Lib.hid (Rx.out.here hc); clear Rx; have Rx := Rx'; clear Rx'
      have Ry' := Lib.hid (Ry.out.here hc); clear Ry; have Ry := Ry'; clear Ry'
      have Rz' := Lib.hid (Rz.out.here hc); clear Rz; have Rz := Rz'; clear Rz'
      have HX6 := Lib.hid (HX5.out.here hc); have HT6 := Lib.hid (HT5.out.trans (hc.mono HT5.out.size)); clear hc HX5 HT5
      have cbx := HX6.out.cell; have fbx := HX6.out.frozen
      go_wp2_with fail
      clear cbx fbx
      refine (do_any HLl.out HLv.out 20 _ op_unite r0.A r0.A r0.n r0.n r0.c r0.c _ _ bx _ Rx.out Rx.out HX6.out).mono ?_
      rintro e V7 ⟨At5, nt5, ct5, rfl, Rt5, hc⟩
      have Rx' := Lib.hid (Rx.out.here hc); clear Rx; have Rx := Rx'; clear Rx'
      have Ry' := Lib.hid (Ry.out.here hc); clear Ry; have Ry := Ry'; clear Ry'
      have Rz' := Lib.hid (Rz.out.here hc); clear Rz; have Rz := Rz'; clear Rz'
      have HX7 := Lib.hid (HX6.out.here hc); have HT7 := Lib.hid (HT6.out.trans (hc.mono HT6.out.size)); clear hc HX6 HT6
      have cbx := HX7.out.cell; have fbx := HX7.out.frozen
      go_wp2_with fail
      clear cbx fbx
      refine (eq_rep HLl.out At5 r0.A nt5 r0.n ct5 r0.c _ _ _ Rt5.out Rx.out (fun d k => by cases fx d k <;> cases fy d k <;> cases fz d k <;> rfl)).mono ?_
      rintro e V8 ⟨rfl, hc⟩
      clear Rt5
      have Rx' := Lib.hid (Rx.out.here hc); clear Rx; have Rx := Rx'; clear Rx'
      have Ry' := Lib.hid (Ry.out.here hc); clear Ry; have Ry := Ry'; clear Ry'
      have Rz' := Lib.hid (Rz.out.here hc); clear Rz; have Rz := Rz'; clear Rz'
      have HX8 := Lib.hid (HX7.out.here hc); have HT8 := Lib.hid (HT7.out.trans (hc.mono HT7.out.size)); clear hc HX7 HT7
      have cbx := HX8.out.cell; have fbx := HX8.out.frozen
      go_wp2_with fail
      clear cbx fbx
      refine (do_any HLl.out HLv.out 24 _ op_common r0.A r0.A r0.n r0.n r0.c r0.c _ _ bx _ Rx.out Rx.out HX8.out).mono ?_
      rintro e V9 ⟨At6, nt6, ct6, rfl, Rt6, hc⟩
      have Rx' := Lib.hid (Rx.out.here hc); clear Rx; have Rx := Rx'; clear Rx'
      have Ry' := Lib.hid (Ry.out.here hc); clear Ry; have Ry := Ry'; clear Ry'
      have Rz' := Lib.hid (Rz.out.here hc); clear Rz; have Rz := Rz'; clear Rz'
      have HX9 := Lib.hid (HX8.out.here hc); have HT9 := Lib.hid (HT8.out.trans (hc.mono HT8.out.size)); clear hc HX8 HT8
      have cbx := HX9.out.cell; have fbx := HX9.out.frozen
      go_wp2_with fail
      clear cbx fbx
      refine (eq_rep HLl.out At6 r0.A nt6 r0.n ct6 r0.c _ _ _ Rt6.out Rx.out (fun d k => by cases fx d k <;> cases fy d k <;> cases fz d k <;> rfl)).mono ?_
      rintro e V10 ⟨rfl, hc⟩
      clear Rt6
      have Rx' := Lib.hid (Rx.out.here hc); clear Rx; have Rx := Rx'; clear Rx'
      have Ry' := Lib.hid (Ry.out.here hc); clear Ry; have Ry := Ry'; clear Ry'
      have Rz' := Lib.hid (Rz.out.here hc); clear Rz; have Rz := Rz'; clear Rz'
      have HX10 := Lib.hid (HX9.out.here hc); have HT10 := Lib.hid (HT9.out.trans (hc.mono HT9.out.size)); clear hc HX9 HT9
      have cbx := HX10.out.cell; have fbx := HX10.out.frozen
      go_wp2_with fail
      clear cbx fbx
      rw [HX10.out.same]
      refine (do_any HLl.out HLv.out 20 _ op_unite r0.A r1.A r0.n r1.n r0.c r1.c _ _ bx _ Rx.out Ry.out HX10.out).mono ?_
      rintro e V11 ⟨At7, nt7, ct7, rfl, Rt7, hc⟩
      have Rx' := Lib.hid (Rx.out.here hc); clear Rx; have Rx := Rx'; clear Rx'
      have Ry' := Lib.hid (Ry.out.here hc); clear Ry; have Ry := Ry'; clear Ry'
      have Rz' := Lib.hid (Rz.out.here hc); clear Rz; have Rz := Rz'; clear Rz'
      have HX11 := Lib.hid (HX10.out.here hc); have HT11 := Lib.hid (HT10.out.trans (hc.mono HT10.out.size)); clear hc HX10 HT10
      have cbx := HX11.out.cell; have fbx := HX11.out.frozen
      go_wp2_with fail
      clear cbx fbx
      refine (do_any HLl.out HLv.out 20 _ op_unite At7 r2.A nt7 r2.n ct7 r2.c _ _ bx _ Rt7.out Rz.out HX11.out).mono ?_
      rintro e V12 ⟨At8, nt8, ct8, rfl, Rt8, hc⟩
      have Rx' := Lib.hid (Rx.out.here hc); clear Rx; have Rx := Rx'; clear Rx'
      have Ry' := Lib.hid (Ry.out.here hc); clear Ry; have Ry := Ry'; clear Ry'
      have Rz' := Lib.hid (Rz.out.here hc); clear Rz; have Rz := Rz'; clear Rz'
      have Rt7' := Lib.hid (Rt7.out.here hc); clear Rt7; have Rt7 := Rt7'; clear Rt7'
      have HX12 := Lib.hid (HX11.out.here hc); have HT12 := Lib.hid (HT11.out.trans (hc.mono HT11.out.size)); clear hc HX11 HT11
      clear Rt7
      have cbx := HX12.out.cell; have fbx := HX12.out.frozen
      go_wp2_with fail
      clear cbx fbx
      refine (do_any HLl.out HLv.out 20 _ op_unite r1.A r2.A r1.n r2.n r1.c r2.c _ _ bx _ Ry.out Rz.out HX12.out).mono ?_
      rintro e V13 ⟨At9, nt9, ct9, rfl, Rt9, hc⟩
      have Rx' := Lib.hid (Rx.out.here hc); clear Rx; have Rx := Rx'; clear Rx'
      have Ry' := Lib.hid (Ry.out.here hc); clear Ry; have Ry := Ry'; clear Ry'
      have Rz' := Lib.hid (Rz.out.here hc); clear Rz; have Rz := Rz'; clear Rz'
      have Rt8' := Lib.hid (Rt8.out.here hc); clear Rt8; have Rt8 := Rt8'; clear Rt8'
      have HX13 := Lib.hid (HX12.out.here hc); have HT13 := Lib.hid (HT12.out.trans (hc.mono HT12.out.size)); clear hc HX12 HT12
      have cbx := HX13.out.cell; have fbx := HX13.out.frozen
      go_wp2_with fail
      clear cbx fbx
      refine (do_any HLl.out HLv.out 20 _ op_unite r0.A At9 r0.n nt9 r0.c ct9 _ _ bx _ Rx.out Rt9.out HX13.out).mono ?_
      rintro e V14 ⟨At10, nt10, ct10, rfl, Rt10, hc⟩
      have Rx' := Lib.hid (Rx.out.here hc); clear Rx; have Rx := Rx'; clear Rx'
      have Ry' := Lib.hid (Ry.out.here hc); clear Ry; have Ry := Ry'; clear Ry'
      have Rz' := Lib.hid (Rz.out.here hc); clear Rz; have Rz := Rz'; clear Rz'
      have Rt8' := Lib.hid (Rt8.out.here hc); clear Rt8; have Rt8 := Rt8'; clear Rt8'
      have Rt9' := Lib.hid (Rt9.out.here hc); clear Rt9; have Rt9 := Rt9'; clear Rt9'
      have HX14 := Lib.hid (HX13.out.here hc); have HT14 := Lib.hid (HT13.out.trans (hc.mono HT13.out.size)); clear hc HX13 HT13
      clear Rt9
      have cbx := HX14.out.cell; have fbx := HX14.out.frozen
      go_wp2_with fail
      clear cbx fbx
      refine (eq_rep HLl.out At8 At10 nt8 nt10 ct8 ct10 _ _ _ Rt8.out Rt10.out (fun d k => by cases fx d k <;> cases fy d k <;> cases fz d k <;> rfl)).mono ?_
      rintro e V15 ⟨rfl, hc⟩
      clear Rt8
      clear Rt10
      have Rx' := Lib.hid (Rx.out.here hc); clear Rx; have Rx := Rx'; clear Rx'
      have Ry' := Lib.hid (Ry.out.here hc); clear Ry; have Ry := Ry'; clear Ry'
      have Rz' := Lib.hid (Rz.out.here hc); clear Rz; have Rz := Rz'; clear Rz'
      have HX15 := Lib.hid (HX14.out.here hc); have HT15 := Lib.hid (HT14.out.trans (hc.mono HT14.out.size)); clear hc HX14 HT14
      have cbx := HX15.out.cell; have fbx := HX15.out.frozen
      go_wp2_with fail
      clear cbx fbx
      refine (do_any HLl.out HLv.out 24 _ op_common r0.A r1.A r0.n r1.n r0.c r1.c _ _ bx _ Rx.out Ry.out HX15.out).mono ?_
      rintro e V16 ⟨At11, nt11, ct11, rfl, Rt11, hc⟩
      have Rx' := Lib.hid (Rx.out.here hc); clear Rx; have Rx := Rx'; clear Rx'
      have Ry' := Lib.hid (Ry.out.here hc); clear Ry; have Ry := Ry'; clear Ry'
      have Rz' := Lib.hid (Rz.out.here hc); clear Rz; have Rz := Rz'; clear Rz'
      have HX16 := Lib.hid (HX15.out.here hc); have HT16 := Lib.hid (HT15.out.trans (hc.mono HT15.out.size)); clear hc HX15 HT15
      have cbx := HX16.out.cell; have fbx := HX16.out.frozen
      go_wp2_with fail
      clear cbx fbx
      refine (do_any HLl.out HLv.out 24 _ op_common At11 r2.A nt11 r2.n ct11 r2.c _ _ bx _ Rt11.out Rz.out HX16.out).mono ?_
      rintro e V17 ⟨At12, nt12, ct12, rfl, Rt12, hc⟩
      have Rx' := Lib.hid (Rx.out.here hc); clear Rx; have Rx := Rx'; clear Rx'
      have Ry' := Lib.hid (Ry.out.here hc); clear Ry; have Ry := Ry'; clear Ry'
      have Rz' := Lib.hid (Rz.out.here hc); clear Rz; have Rz := Rz'; clear Rz'
      have Rt11' := Lib.hid (Rt11.out.here hc); clear Rt11; have Rt11 := Rt11'; clear Rt11'
      have HX17 := Lib.hid (HX16.out.here hc); have HT17 := Lib.hid (HT16.out.trans (hc.mono HT16.out.size)); clear hc HX16 HT16
      clear Rt11
      have cbx := HX17.out.cell; have fbx := HX17.out.frozen
      go_wp2_with fail
      clear cbx fbx
      refine (do_any HLl.out HLv.out 24 _ op_common r1.A r2.A r1.n r2.n r1.c r2.c _ _ bx _ Ry.out Rz.out HX17.out).mono ?_
      rintro e V18 ⟨At13, nt13, ct13, rfl, Rt13, hc⟩
      have Rx' := Lib.hid (Rx.out.here hc); clear Rx; have Rx := Rx'; clear Rx'
      have Ry' := Lib.hid (Ry.out.here hc); clear Ry; have Ry := Ry'; clear Ry'
      have Rz' := Lib.hid (Rz.out.here hc); clear Rz; have Rz := Rz'; clear Rz'
      have Rt12' := Lib.hid (Rt12.out.here hc); clear Rt12; have Rt12 := Rt12'; clear Rt12'
      have HX18 := Lib.hid (HX17.out.here hc); have HT18 := Lib.hid (HT17.out.trans (hc.mono HT17.out.size)); clear hc HX17 HT17
      have cbx := HX18.out.cell; have fbx := HX18.out.frozen
      go_wp2_with fail
      clear cbx fbx
      refine (do_any HLl.out HLv.out 24 _ op_common r0.A At13 r0.n nt13 r0.c ct13 _ _ bx _ Rx.out Rt13.out HX18.out).mono ?_
      rintro e V19 ⟨At14, nt14, ct14, rfl, Rt14, hc⟩
      have Rx' := Lib.hid (Rx.out.here hc); clear Rx; have Rx := Rx'; clear Rx'
      have Ry' := Lib.hid (Ry.out.here hc); clear Ry; have Ry := Ry'; clear Ry'
      have Rz' := Lib.hid (Rz.out.here hc); clear Rz; have Rz := Rz'; clear Rz'
      have Rt12' := Lib.hid (Rt12.out.here hc); clear Rt12; have Rt12 := Rt12'; clear Rt12'
      have Rt13' := Lib.hid (Rt13.out.here hc); clear Rt13; have Rt13 := Rt13'; clear Rt13'
      have HX19 := Lib.hid (HX18.out.here hc); have HT19 := Lib.hid (HT18.out.trans (hc.mono HT18.out.size)); clear hc HX18 HT18
      clear Rt13
      have cbx := HX19.out.cell; have fbx := HX19.out.frozen
      go_wp2_with fail
      clear cbx fbx
      refine (eq_rep HLl.out At12 At14 nt12 nt14 ct12 ct14 _ _ _ Rt12.out Rt14.out (fun d k => by cases fx d k <;> cases fy d k <;> cases fz d k <;> rfl)).mono ?_
      rintro e V20 ⟨rfl, hc⟩
      clear Rt12
      clear Rt14
      have Rx' := Lib.hid (Rx.out.here hc); clear Rx; have Rx := Rx'; clear Rx'
      have Ry' := Lib.hid (Ry.out.here hc); clear Ry; have Ry := Ry'; clear Ry'
      have Rz' := Lib.hid (Rz.out.here hc); clear Rz; have Rz := Rz'; clear Rz'
      have HX20 := Lib.hid (HX19.out.here hc); have HT20 := Lib.hid (HT19.out.trans (hc.mono HT19.out.size)); clear hc HX19 HT19
      have cbx := HX20.out.cell; have fbx := HX20.out.frozen
      go_wp2_with fail
      clear cbx fbx
      rw [HX20.out.same]
      refine (do_any HLl.out HLv.out 20 _ op_unite r1.A r2.A r1.n r2.n r1.c r2.c _ _ bx _ Ry.out Rz.out HX20.out).mono ?_
      rintro e V21 ⟨At15, nt15, ct15, rfl, Rt15, hc⟩
      have Rx' := Lib.hid (Rx.out.here hc); clear Rx; have Rx := Rx'; clear Rx'
      have Ry' := Lib.hid (Ry.out.here hc); clear Ry; have Ry := Ry'; clear Ry'
      have Rz' := Lib.hid (Rz.out.here hc); clear Rz; have Rz := Rz'; clear Rz'
      have HX21 := Lib.hid (HX20.out.here hc); have HT21 := Lib.hid (HT20.out.trans (hc.mono HT20.out.size)); clear hc HX20 HT20
      have cbx := HX21.out.cell; have fbx := HX21.out.frozen
      go_wp2_with fail
      clear cbx fbx
      refine (do_any HLl.out HLv.out 24 _ op_common r0.A At15 r0.n nt15 r0.c ct15 _ _ bx _ Rx.out Rt15.out HX21.out).mono ?_
      rintro e V22 ⟨At16, nt16, ct16, rfl, Rt16, hc⟩
      have Rx' := Lib.hid (Rx.out.here hc); clear Rx; have Rx := Rx'; clear Rx'
      have Ry' := Lib.hid (Ry.out.here hc); clear Ry; have Ry := Ry'; clear Ry'
      have Rz' := Lib.hid (Rz.out.here hc); clear Rz; have Rz := Rz'; clear Rz'
      have Rt15' := Lib.hid (Rt15.out.here hc); clear Rt15; have Rt15 := Rt15'; clear Rt15'
      have HX22 := Lib.hid (HX21.out.here hc); have HT22 := Lib.hid (HT21.out.trans (hc.mono HT21.out.size)); clear hc HX21 HT21
      clear Rt15
      have cbx := HX22.out.cell; have fbx := HX22.out.frozen
      go_wp2_with fail
      clear cbx fbx
      refine (do_any HLl.out HLv.out 24 _ op_common r0.A r1.A r0.n r1.n r0.c r1.c _ _ bx _ Rx.out Ry.out HX22.out).mono ?_
      rintro e V23 ⟨At17, nt17, ct17, rfl, Rt17, hc⟩
      have Rx' := Lib.hid (Rx.out.here hc); clear Rx; have Rx := Rx'; clear Rx'
      have Ry' := Lib.hid (Ry.out.here hc); clear Ry; have Ry := Ry'; clear Ry'
      have Rz' := Lib.hid (Rz.out.here hc); clear Rz; have Rz := Rz'; clear Rz'
      have Rt16' := Lib.hid (Rt16.out.here hc); clear Rt16; have Rt16 := Rt16'; clear Rt16'
      have HX23 := Lib.hid (HX22.out.here hc); have HT23 := Lib.hid (HT22.out.trans (hc.mono HT22.out.size)); clear hc HX22 HT22
      have cbx := HX23.out.cell; have fbx := HX23.out.frozen
      go_wp2_with fail
      clear cbx fbx
      refine (do_any HLl.out HLv.out 24 _ op_common r0.A r2.A r0.n r2.n r0.c r2.c _ _ bx _ Rx.out Rz.out HX23.out).mono ?_
      rintro e V24 ⟨At18, nt18, ct18, rfl, Rt18, hc⟩
      have Rx' := Lib.hid (Rx.out.here hc); clear Rx; have Rx := Rx'; clear Rx'
      have Ry' := Lib.hid (Ry.out.here hc); clear Ry; have Ry := Ry'; clear Ry'
      have Rz' := Lib.hid (Rz.out.here hc); clear Rz; have Rz := Rz'; clear Rz'
      have Rt16' := Lib.hid (Rt16.out.here hc); clear Rt16; have Rt16 := Rt16'; clear Rt16'
      have Rt17' := Lib.hid (Rt17.out.here hc); clear Rt17; have Rt17 := Rt17'; clear Rt17'
      have HX24 := Lib.hid (HX23.out.here hc); have HT24 := Lib.hid (HT23.out.trans (hc.mono HT23.out.size)); clear hc HX23 HT23
      have cbx := HX24.out.cell; have fbx := HX24.out.frozen
      go_wp2_with fail
      clear cbx fbx
      refine (do_any HLl.out HLv.out 20 _ op_unite At17 At18 nt17 nt18 ct17 ct18 _ _ bx _ Rt17.out Rt18.out HX24.out).mono ?_
      rintro e V25 ⟨At19, nt19, ct19, rfl, Rt19, hc⟩
      have Rx' := Lib.hid (Rx.out.here hc); clear Rx; have Rx := Rx'; clear Rx'
      have Ry' := Lib.hid (Ry.out.here hc); clear Ry; have Ry := Ry'; clear Ry'
      have Rz' := Lib.hid (Rz.out.here hc); clear Rz; have Rz := Rz'; clear Rz'
      have Rt16' := Lib.hid (Rt16.out.here hc); clear Rt16; have Rt16 := Rt16'; clear Rt16'
      have Rt17' := Lib.hid (Rt17.out.here hc); clear Rt17; have Rt17 := Rt17'; clear Rt17'
      have Rt18' := Lib.hid (Rt18.out.here hc); clear Rt18; have Rt18 := Rt18'; clear Rt18'
      have HX25 := Lib.hid (HX24.out.here hc); have HT25 := Lib.hid (HT24.out.trans (hc.mono HT24.out.size)); clear hc HX24 HT24
      clear Rt17
      clear Rt18
      have cbx := HX25.out.cell; have fbx := HX25.out.frozen
      go_wp2_with fail
      clear cbx fbx
      refine (eq_rep HLl.out At16 At19 nt16 nt19 ct16 ct19 _ _ _ Rt16.out Rt19.out (fun d k => by cases fx d k <;> cases fy d k <;> cases fz d k <;> rfl)).mono ?_
      rintro e V26 ⟨rfl, hc⟩
      clear Rt16
      clear Rt19
      have Rx' := Lib.hid (Rx.out.here hc); clear Rx; have Rx := Rx'; clear Rx'
      have Ry' := Lib.hid (Ry.out.here hc); clear Ry; have Ry := Ry'; clear Ry'
      have Rz' := Lib.hid (Rz.out.here hc); clear Rz; have Rz := Rz'; clear Rz'
      have HX26 := Lib.hid (HX25.out.here hc); have HT26 := Lib.hid (HT25.out.trans (hc.mono HT25.out.size)); clear hc HX25 HT25
      have cbx := HX26.out.cell; have fbx := HX26.out.frozen
      go_wp2_with fail
      clear cbx fbx
      refine (do_any HLl.out HLv.out 24 _ op_common r1.A r2.A r1.n r2.n r1.c r2.c _ _ bx _ Ry.out Rz.out HX26.out).mono ?_
      rintro e V27 ⟨At20, nt20, ct20, rfl, Rt20, hc⟩
      have Rx' := Lib.hid (Rx.out.here hc); clear Rx; have Rx := Rx'; clear Rx'
      have Ry' := Lib.hid (Ry.out.here hc); clear Ry; have Ry := Ry'; clear Ry'
      have Rz' := Lib.hid (Rz.out.here hc); clear Rz; have Rz := Rz'; clear Rz'
      have HX27 := Lib.hid (HX26.out.here hc); have HT27 := Lib.hid (HT26.out.trans (hc.mono HT26.out.size)); clear hc HX26 HT26
      have cbx := HX27.out.cell; have fbx := HX27.out.frozen
      go_wp2_with fail
      clear cbx fbx
      refine (do_any HLl.out HLv.out 20 _ op_unite r0.A At20 r0.n nt20 r0.c ct20 _ _ bx _ Rx.out Rt20.out HX27.out).mono ?_
      rintro e V28 ⟨At21, nt21, ct21, rfl, Rt21, hc⟩
      have Rx' := Lib.hid (Rx.out.here hc); clear Rx; have Rx := Rx'; clear Rx'
      have Ry' := Lib.hid (Ry.out.here hc); clear Ry; have Ry := Ry'; clear Ry'
      have Rz' := Lib.hid (Rz.out.here hc); clear Rz; have Rz := Rz'; clear Rz'
      have Rt20' := Lib.hid (Rt20.out.here hc); clear Rt20; have Rt20 := Rt20'; clear Rt20'
      have HX28 := Lib.hid (HX27.out.here hc); have HT28 := Lib.hid (HT27.out.trans (hc.mono HT27.out.size)); clear hc HX27 HT27
      clear Rt20
      have cbx := HX28.out.cell; have fbx := HX28.out.frozen
      go_wp2_with fail
      clear cbx fbx
      refine (do_any HLl.out HLv.out 20 _ op_unite r0.A r1.A r0.n r1.n r0.c r1.c _ _ bx _ Rx.out Ry.out HX28.out).mono ?_
      rintro e V29 ⟨At22, nt22, ct22, rfl, Rt22, hc⟩
      have Rx' := Lib.hid (Rx.out.here hc); clear Rx; have Rx := Rx'; clear Rx'
      have Ry' := Lib.hid (Ry.out.here hc); clear Ry; have Ry := Ry'; clear Ry'
      have Rz' := Lib.hid (Rz.out.here hc); clear Rz; have Rz := Rz'; clear Rz'
      have Rt21' := Lib.hid (Rt21.out.here hc); clear Rt21; have Rt21 := Rt21'; clear Rt21'
      have HX29 := Lib.hid (HX28.out.here hc); have HT29 := Lib.hid (HT28.out.trans (hc.mono HT28.out.size)); clear hc HX28 HT28
      have cbx := HX29.out.cell; have fbx := HX29.out.frozen
      go_wp2_with fail
      clear cbx fbx
      refine (do_any HLl.out HLv.out 20 _ op_unite r0.A r2.A r0.n r2.n r0.c r2.c _ _ bx _ Rx.out Rz.out HX29.out).mono ?_
      rintro e V30 ⟨At23, nt23, ct23, rfl, Rt23, hc⟩
      have Rx' := Lib.hid (Rx.out.here hc); clear Rx; have Rx := Rx'; clear Rx'
      have Ry' := Lib.hid (Ry.out.here hc); clear Ry; have Ry := Ry'; clear Ry'
      have Rz' := Lib.hid (Rz.out.here hc); clear Rz; have Rz := Rz'; clear Rz'
      have Rt21' := Lib.hid (Rt21.out.here hc); clear Rt21; have Rt21 := Rt21'; clear Rt21'
      have Rt22' := Lib.hid (Rt22.out.here hc); clear Rt22; have Rt22 := Rt22'; clear Rt22'
      have HX30 := Lib.hid (HX29.out.here hc); have HT30 := Lib.hid (HT29.out.trans (hc.mono HT29.out.size)); clear hc HX29 HT29
      have cbx := HX30.out.cell; have fbx := HX30.out.frozen
      go_wp2_with fail
      clear cbx fbx
      refine (do_any HLl.out HLv.out 24 _ op_common At22 At23 nt22 nt23 ct22 ct23 _ _ bx _ Rt22.out Rt23.out HX30.out).mono ?_
      rintro e V31 ⟨At24, nt24, ct24, rfl, Rt24, hc⟩
      have Rx' := Lib.hid (Rx.out.here hc); clear Rx; have Rx := Rx'; clear Rx'
      have Ry' := Lib.hid (Ry.out.here hc); clear Ry; have Ry := Ry'; clear Ry'
      have Rz' := Lib.hid (Rz.out.here hc); clear Rz; have Rz := Rz'; clear Rz'
      have Rt21' := Lib.hid (Rt21.out.here hc); clear Rt21; have Rt21 := Rt21'; clear Rt21'
      have Rt22' := Lib.hid (Rt22.out.here hc); clear Rt22; have Rt22 := Rt22'; clear Rt22'
      have Rt23' := Lib.hid (Rt23.out.here hc); clear Rt23; have Rt23 := Rt23'; clear Rt23'
      have HX31 := Lib.hid (HX30.out.here hc); have HT31 := Lib.hid (HT30.out.trans (hc.mono HT30.out.size)); clear hc HX30 HT30
      clear Rt22
      clear Rt23
      have cbx := HX31.out.cell; have fbx := HX31.out.frozen
      go_wp2_with fail
      clear cbx fbx
      refine (eq_rep HLl.out At21 At24 nt21 nt24 ct21 ct24 _ _ _ Rt21.out Rt24.out (fun d k => by cases fx d k <;> cases fy d k <;> cases fz d k <;> rfl)).mono ?_
      rintro e V32 ⟨rfl, hc⟩
      clear Rt21
      clear Rt24
      have Rx' := Lib.hid (Rx.out.here hc); clear Rx; have Rx := Rx'; clear Rx'
      have Ry' := Lib.hid (Ry.out.here hc); clear Ry; have Ry := Ry'; clear Ry'
      have Rz' := Lib.hid (Rz.out.here hc); clear Rz; have Rz := Rz'; clear Rz'
      have HX32 := Lib.hid (HX31.out.here hc); have HT32 := Lib.hid (HT31.out.trans (hc.mono HT31.out.size)); clear hc HX31 HT31
      have cbx := HX32.out.cell; have fbx := HX32.out.frozen
      go_wp2_with fail
      clear cbx fbx
      rw [HX32.out.same]
      refine (do_any HLl.out HLv.out 22 _ op_minus r0.A r1.A r0.n r1.n r0.c r1.c _ _ bx _ Rx.out Ry.out HX32.out).mono ?_
      rintro e V33 ⟨At25, nt25, ct25, rfl, Rt25, hc⟩
      have Rx' := Lib.hid (Rx.out.here hc); clear Rx; have Rx := Rx'; clear Rx'
      have Ry' := Lib.hid (Ry.out.here hc); clear Ry; have Ry := Ry'; clear Ry'
      have Rz' := Lib.hid (Rz.out.here hc); clear Rz; have Rz := Rz'; clear Rz'
      have HX33 := Lib.hid (HX32.out.here hc); have HT33 := Lib.hid (HT32.out.trans (hc.mono HT32.out.size)); clear hc HX32 HT32
      have cbx := HX33.out.cell; have fbx := HX33.out.frozen
      go_wp2_with fail
      clear cbx fbx
      refine (do_any HLl.out HLv.out 24 _ op_common r0.A r1.A r0.n r1.n r0.c r1.c _ _ bx _ Rx.out Ry.out HX33.out).mono ?_
      rintro e V34 ⟨At26, nt26, ct26, rfl, Rt26, hc⟩
      have Rx' := Lib.hid (Rx.out.here hc); clear Rx; have Rx := Rx'; clear Rx'
      have Ry' := Lib.hid (Ry.out.here hc); clear Ry; have Ry := Ry'; clear Ry'
      have Rz' := Lib.hid (Rz.out.here hc); clear Rz; have Rz := Rz'; clear Rz'
      have Rt25' := Lib.hid (Rt25.out.here hc); clear Rt25; have Rt25 := Rt25'; clear Rt25'
      have HX34 := Lib.hid (HX33.out.here hc); have HT34 := Lib.hid (HT33.out.trans (hc.mono HT33.out.size)); clear hc HX33 HT33
      have cbx := HX34.out.cell; have fbx := HX34.out.frozen
      go_wp2_with fail
      clear cbx fbx
      refine (do_any HLl.out HLv.out 20 _ op_unite At25 At26 nt25 nt26 ct25 ct26 _ _ bx _ Rt25.out Rt26.out HX34.out).mono ?_
      rintro e V35 ⟨At27, nt27, ct27, rfl, Rt27, hc⟩
      have Rx' := Lib.hid (Rx.out.here hc); clear Rx; have Rx := Rx'; clear Rx'
      have Ry' := Lib.hid (Ry.out.here hc); clear Ry; have Ry := Ry'; clear Ry'
      have Rz' := Lib.hid (Rz.out.here hc); clear Rz; have Rz := Rz'; clear Rz'
      have Rt25' := Lib.hid (Rt25.out.here hc); clear Rt25; have Rt25 := Rt25'; clear Rt25'
      have Rt26' := Lib.hid (Rt26.out.here hc); clear Rt26; have Rt26 := Rt26'; clear Rt26'
      have HX35 := Lib.hid (HX34.out.here hc); have HT35 := Lib.hid (HT34.out.trans (hc.mono HT34.out.size)); clear hc HX34 HT34
      clear Rt26
      have cbx := HX35.out.cell; have fbx := HX35.out.frozen
      go_wp2_with fail
      clear cbx fbx
      refine (eq_rep HLl.out At27 r0.A nt27 r0.n ct27 r0.c _ _ _ Rt27.out Rx.out (fun d k => by cases fx d k <;> cases fy d k <;> cases fz d k <;> rfl)).mono ?_
      rintro e V36 ⟨rfl, hc⟩
      clear Rt27
      have Rx' := Lib.hid (Rx.out.here hc); clear Rx; have Rx := Rx'; clear Rx'
      have Ry' := Lib.hid (Ry.out.here hc); clear Ry; have Ry := Ry'; clear Ry'
      have Rz' := Lib.hid (Rz.out.here hc); clear Rz; have Rz := Rz'; clear Rz'
      have Rt25' := Lib.hid (Rt25.out.here hc); clear Rt25; have Rt25 := Rt25'; clear Rt25'
      have HX36 := Lib.hid (HX35.out.here hc); have HT36 := Lib.hid (HT35.out.trans (hc.mono HT35.out.size)); clear hc HX35 HT35
      have cbx := HX36.out.cell; have fbx := HX36.out.frozen
      go_wp2_with fail
      clear cbx fbx
      refine (do_any HLl.out HLv.out 24 _ op_common At25 r1.A nt25 r1.n ct25 r1.c _ _ bx _ Rt25.out Ry.out HX36.out).mono ?_
      rintro e V37 ⟨At28, nt28, ct28, rfl, Rt28, hc⟩
      have Rx' := Lib.hid (Rx.out.here hc); clear Rx; have Rx := Rx'; clear Rx'
      have Ry' := Lib.hid (Ry.out.here hc); clear Ry; have Ry := Ry'; clear Ry'
      have Rz' := Lib.hid (Rz.out.here hc); clear Rz; have Rz := Rz'; clear Rz'
      have Rt25' := Lib.hid (Rt25.out.here hc); clear Rt25; have Rt25 := Rt25'; clear Rt25'
      have HX37 := Lib.hid (HX36.out.here hc); have HT37 := Lib.hid (HT36.out.trans (hc.mono HT36.out.size)); clear hc HX36 HT36
      obtain rfl : nt28 = 0 := Rt28.out.none (fun d k => by cases fx d k <;> cases fy d k <;> rfl)
      have cbx := HX37.out.cell; have fbx := HX37.out.frozen
      go_wp2_with (go_at_call 10; refine (awake_any _).mono ?_; rintro e wz ⟨rfl, hbz⟩)
      go_ret
      exact ⟨rfl, HT37.out.trans (hbz.mono HT37.out.size)⟩
    · have hq : (6 < na ∨ (na ≤ 6 ∧ 6 < nb) ∨ (na ≤ 6 ∧ nb ≤ 6 ∧ 6 < nc)) := by omega
      clear h6 hyes hoR hoA
      rcases hq with q1 | ⟨q1, q2⟩ | ⟨q1, q2, q3⟩
      all_goals
        go_wp2_with (go_at_call 10; refine (awake_any _).mono ?_; rintro e w2 ⟨rfl, hb2⟩)
        go_ret
        exact ⟨rfl, HB01.out.trans (hb2.mono HB01.out.size)⟩
end Go.Proofs.YtiefdlfninhbgaaGreatDoor
