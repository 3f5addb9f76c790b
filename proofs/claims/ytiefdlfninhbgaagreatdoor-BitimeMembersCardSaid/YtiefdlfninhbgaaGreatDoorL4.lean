/- The law BitimeMembers: its walk. -/
import Derived.Test.YtiefdlfninhbgaaGreatDoorAw
import Derived.Test.YtiefdlfninhbgaaGreatDoorLM
import Derived.Deep.RegionHeld3
import Derived.Deep.DeepCutAuto
namespace Go.Proofs.YtiefdlfninhbgaaGreatDoor
open Go.RowKit Go.Shelf

set_option maxRecDepth 100000 in
set_option maxHeartbeats 4000000 in
theorem members_law (Aa Ab : Option Addr) (na nb ca cb : Nat) (xs ys : List Reg) (d k : Int) (w : World) (ha : Rgs w w.heap.size Aa na xs) (hb : Rgs w w.heap.size Ab nb ys) (hna : na ≤ maxLen) (hnb : nb ≤ maxLen) :
    Calls Tryz.prog 6 #[.slice Aa na ca, .slice Ab nb cb, .int .i64 d, .int .i64 k] w fun e w' => e = .returned (.bool true) ∧ Below w.heap.size w w' := by
  have hL0 := Sl.lit (enc := SlV.vals) (k := 1) w #[.slice Aa na ca, .slice Ab nb cb] 22 [⟨Aa, na, ca⟩, ⟨Ab, nb, cb⟩] rfl SlV.vals_len
  have hb0 : Below w.heap.size w (w.alloc (.cells #[.slice Aa na ca, .slice Ab nb cb] 22)) := (Below.refl _ _).alloc (Nat.le_refl _) _
  have hRA : RgsAll (w.alloc (.cells #[.slice Aa na ca, .slice Ab nb cb] 22)) (w.alloc (.cells #[.slice Aa na ca, .slice Ab nb cb] 22)).heap.size [⟨Aa, na, ca⟩, ⟨Ab, nb, cb⟩] [xs, ys] := by
    refine ⟨rfl, fun i r x hr hx => ?_⟩
    match i, hr, hx with
    | 0, hr, hx => simp at hr hx; subst hr; subst hx; exact ha.here hb0
    | 1, hr, hx => simp at hr hx; subst hr; subst hx; exact hb.here hb0
    | n + 2, hr, hx => simp at hr
  have HLN := Lib.hid (lnormal_any (some ⟨w.heap.size, 0, none⟩) 2 2 [⟨Aa, na, ca⟩, ⟨Ab, nb, cb⟩] [xs, ys] _ (by simpa using hL0) hRA (by omega) (fun r hr => by simp at hr; rcases hr with rfl | rfl <;> assumption))
  have HA := Lib.hid (ha.here hb0); have HB := Lib.hid (hb.here hb0); have HB0 := Lib.hid hb0
  clear hL0 hRA ha hb hb0 hna hnb
  go_enter Tryz.func6, Tryz.ntmps6
  go_wp2_with fail
  generalize w.alloc (.cells #[.slice Aa na ca, .slice Ab nb cb] 22) = W0 at *
  refine HLN.out.mono ?_
  rintro e w1 ⟨hb1, ⟨hno, rfl⟩ | ⟨hyes, A', c', rs, rfl, hoR, hoA⟩⟩
  · clear hno HLN
    have hb01 := HB0.out.trans (hb1.mono HB0.out.size)
    go_wp2_with (go_at_call 10; refine (awake_any _).mono ?_; rintro e w2 ⟨rfl, hb2⟩)
    go_ret
    exact ⟨rfl, hb01.trans (hb2.mono hb01.size)⟩
  · clear HLN
    simp only [List.all_cons, List.all_nil, Bool.and_true, Bool.and_eq_true] at hyes
    obtain ⟨hx1, hx2, hx3⟩ := okN_ok hyes.1
    obtain ⟨hy1, hy2, hy3⟩ := okN_ok hyes.2
    have hnx : na ≤ 10 := by rw [HA.out.1]; exact hx1
    have hny : nb ≤ 10 := by rw [HB.out.1]; exact hy1
    have hLl : (xs ++ ys).length ≤ 20 := by rw [List.length_append]; omega
    have hLv : ∀ r ∈ xs ++ ys, checkOne r = 0 := fun r hr => by rcases List.mem_append.1 hr with h | h; exact hx3 r h; exact hy3 r h
    have n0 := NS.norm (xs := xs) hLl hLv (fun r hr => by simp [hr]) hx1
    have n1 := NS.norm (xs := ys) hLl hLv (fun r hr => by simp [hr]) hy1
    have hrl : rs.length = 2 := by have := hoR.facts.1; omega
    obtain ⟨r0, r1, rfl⟩ : ∃ r0 r1, rs = [r0, r1] := by
      match rs, hrl with
      | [a, b], _ => exact ⟨a, b, rfl⟩
    have ho0 : Own Reg.vals 4 35 w1 W0.heap.size (.slice r0.A r0.n r0.c) (pNormL xs).1 := hoA.2 0 r0 _ rfl rfl
    have ho1 : Own Reg.vals 4 35 w1 W0.heap.size (.slice r1.A r1.n r1.c) (pNormL ys).1 := hoA.2 1 r1 _ rfl rfl
    generalize (pNormL xs).1 = l0 at *
    generalize (pNormL ys).1 = l1 at *
    obtain ⟨u, eu, nu⟩ := NS.oper (cond := fun x y => x || y) hLl hLv rfl n0 n1
    obtain ⟨m, em, nm⟩ := NS.oper (cond := fun x y => x && !y) hLl hLv rfl n0 n1
    obtain ⟨c, ec, nc⟩ := NS.oper (cond := fun x y => x && y) hLl hLv rfl n0 n1
    obtain ⟨g, o1, s0, hA', hg, hs0, d0⟩ := (hoR.sl SlV.vals_len).slv (i := 0) (by omega)
    obtain ⟨g', o1', s1, hA2, _, hs1, d1⟩ := (hoR.sl SlV.vals_len).slv (i := 1) (by omega)
    obtain ⟨_, _, _, hAg⟩ := hoR.facts
    subst hA'
    injection hA2 with hA2
    injection hA2 with e1 e2
    subst e1; subst e2
    simp at hs0 hs1
    subst hs0; subst hs1
    obtain ⟨hl0, _⟩ := ho0.facts
    obtain ⟨hl1, _⟩ := ho1.facts
    have z0 := n0.1.small hLl n0.2
    have z1 := n1.1.small hLl n1.2
    have b0 : r0.n ≤ 400 := by omega
    have b1 : r1.n ≤ 400 := by omega
    have HS0 := Lib.hid (ho0.sl Reg.vals_len); have HS1 := Lib.hid (ho1.sl Reg.vals_len)
    have hb01 := HB0.out.trans (hb1.mono HB0.out.size)
    have HAx := Lib.hid (HA.out.here hb1); have HBx := Lib.hid (HB.out.here hb1)
    have HH0 := Lib.hid (n0.1.has d k); have HH1 := Lib.hid (n1.1.has d k)
    have HHu := Lib.hid (nu.1.has d k); have HHm := Lib.hid (nm.1.has d k); have HHc := Lib.hid (nc.1.has d k)
    have HC0 := Lib.hid (n0.check hLl hLv); have HC1 := Lib.hid (n1.check hLl hLv)
    have HCu := Lib.hid (nu.check hLl hLv); have HCm := Lib.hid (nm.check hLl hLv); have HCc := Lib.hid (nc.check hLl hLv)
    have zu := nu.1.small hLl nu.2; have zm := nm.1.small hLl nm.2; have zc := nc.1.small hLl nc.2
    clear nu nm nc n0 n1 hLl hLv hx1 hx2 hx3 hy1 hy2 hy3 hyes hrl hoA ho0 ho1 hl0 hl1 z0 z1 hAg hoR HA HB HB0 hb1
    have HU := Lib.hid (fun (W : World) (h : Below w1.heap.size w1 W) => Unite_any r0.A r1.A r0.n r1.n r0.c r1.c l0 l1 W (HS0.out.here h) (HS1.out.here h) (by omega) (by omega))
    have HM := Lib.hid (fun (W : World) (h : Below w1.heap.size w1 W) => Minus_any r0.A r1.A r0.n r1.n r0.c r1.c l0 l1 W (HS0.out.here h) (HS1.out.here h) (by omega) (by omega))
    have HK := Lib.hid (fun (W : World) (h : Below w1.heap.size w1 W) => Common_any r0.A r1.A r0.n r1.n r0.c r1.c l0 l1 W (HS0.out.here h) (HS1.out.here h) (by omega) (by omega))
    rw [eu] at HU
    rw [em] at HM
    rw [ec] at HK
    clear eu em ec
    have HHa := Lib.hid (fun (W : World) (h : Below w1.heap.size w1 W) => Has_any Aa na ca xs d k W (HAx.out.here h) (by omega))
    have HHb := Lib.hid (fun (W : World) (h : Below w1.heap.size w1 W) => Has_any Ab nb cb ys d k W (HBx.out.here h) (by omega))
    generalize hasL xs d k = bx at *
    generalize hasL ys d k = by_ at *
    simp only [Nat.add_zero] at d0
    go_wp2_with (first
      | (go_at_call_of 18 (Value.slice Aa na ca); refine (HHa.out _ (Below.refl _ _)).mono ?_; rintro e w2 ⟨rfl, hb2⟩)
      | (go_at_call_of 18 (Value.slice Ab nb cb); refine (HHb.out _ hb2).mono ?_; rintro e w3 ⟨rfl, hb3⟩; have hb13 := hb2.trans (hb3.mono hb2.size); clear hb2 hb3; have d03 := (hb13.cell (p := ⟨g, o1, none⟩) hg).trans d0; have d13 := (hb13.cell (p := ⟨g, o1 + 1, none⟩) hg).trans d1))
    go_cut [13, 14] (fun s t wc => ∃ A4 c4, s = .slice A4 u.length c4 ∧ t = .int .i64 0 ∧ Hid (Own Reg.vals 4 35 wc w1.heap.size (.slice A4 u.length c4) u) ∧ Below w1.heap.size w1 wc)
    case first =>
      go_region_with (go_at_call 20; refine (HU.out _ hb13.drew).mono ?_; rintro e w4 ⟨A4, c4, rfl, ho4, hb4⟩)
      all_goals
        go_wp2_with fail
        go_meet
        exact ⟨A4, c4, rfl, rfl, ho4.base_ hb13.size, hb13.drew.trans (hb4.mono hb13.size)⟩
    case rest =>
    obtain ⟨A4, c4, rfl, rfl, HO4, hb14⟩ := hcut
    clear d03 d13 HU hb13
    obtain ⟨w4, rfl⟩ : ∃ W, W = wc := ⟨_, rfl⟩
    have d04 := (hb14.cell (p := ⟨g, o1, none⟩) hg).trans d0
    have d14 := (hb14.cell (p := ⟨g, o1 + 1, none⟩) hg).trans d1
    go_wp2_with fail
    go_cut [15, 16] (fun s t wc => ∃ A5 c5, s = .slice A5 m.length c5 ∧ t = .int .i64 0 ∧ Hid (Own Reg.vals 4 35 wc w1.heap.size (.slice A5 m.length c5) m) ∧ Hid (Own Reg.vals 4 35 wc w1.heap.size (.slice A4 u.length c4) u) ∧ Below w1.heap.size w1 wc)
    case first =>
      go_region_with (go_at_call 22; refine (HM.out _ hb14.drew).mono ?_; rintro e w5 ⟨A5, c5, rfl, ho5, hb5⟩)
      all_goals
        go_wp2_with fail
        go_meet
        exact ⟨A5, c5, rfl, rfl, ho5.base_ hb14.size, HO4.out.drew.below hb5, hb14.drew.trans (hb5.mono hb14.size)⟩
    case rest =>
    clear HO4
    obtain ⟨A5, c5, rfl, rfl, HO5, HO4, hb15⟩ := hcut
    clear d04 d14 HM hb14
    obtain ⟨w5, rfl⟩ : ∃ W, W = wc := ⟨_, rfl⟩
    have d05 := (hb15.cell (p := ⟨g, o1, none⟩) hg).trans d0
    have d15 := (hb15.cell (p := ⟨g, o1 + 1, none⟩) hg).trans d1
    go_wp2_with fail
    go_cut [17, 18] (fun s t wc => ∃ A6 c6, s = .slice A6 c.length c6 ∧ t = .int .i64 0 ∧ Hid (Own Reg.vals 4 35 wc w1.heap.size (.slice A6 c.length c6) c) ∧ Hid (Own Reg.vals 4 35 wc w1.heap.size (.slice A5 m.length c5) m) ∧ Hid (Own Reg.vals 4 35 wc w1.heap.size (.slice A4 u.length c4) u) ∧ Below w1.heap.size w1 wc)
    case first =>
      go_region_with (go_at_call 24; refine (HK.out _ hb15.drew).mono ?_; rintro e w6 ⟨A6, c6, rfl, ho6, hb6⟩)
      all_goals
        go_wp2_with fail
        go_meet
        exact ⟨A6, c6, rfl, rfl, ho6.base_ hb15.size, HO5.out.drew.below hb6, HO4.out.drew.below hb6, hb15.drew.trans (hb6.mono hb15.size)⟩
    case rest =>
    clear HO4 HO5
    obtain ⟨A6, c6, rfl, rfl, HO6, HO5, HO4, hb16⟩ := hcut
    clear d05 d15 HK hb15
    obtain ⟨w6, rfl⟩ : ∃ W, W = wc := ⟨_, rfl⟩
    have d06 := (hb16.cell (p := ⟨g, o1, none⟩) hg).trans d0
    have d16 := (hb16.cell (p := ⟨g, o1 + 1, none⟩) hg).trans d1
    have HS06 := Lib.hid (HS0.out.here hb16); have HS16 := Lib.hid (HS1.out.here hb16)
    have HHl0 := Lib.hid (fun (W : World) (h : Below w6.heap.size w6 W) => Has_any r0.A r0.n r0.c l0 d k W (HS06.out.here h) (by omega))
    have HHl1 := Lib.hid (fun (W : World) (h : Below w6.heap.size w6 W) => Has_any r1.A r1.n r1.c l1 d k W (HS16.out.here h) (by omega))
    rw [HH0.out] at HHl0
    rw [HH1.out] at HHl1
    have hbb : (bx != bx) = false := by cases bx <;> rfl
    have hbb2 : (by_ != by_) = false := by cases by_ <;> rfl
    have hg6 : g < w6.heap.size := Nat.lt_of_lt_of_le hg hb16.size
    go_wp2_with (first
      | (go_at_call_of 18 (Value.slice r0.A r0.n r0.c); refine (HHl0.out _ (Below.refl _ _)).mono ?_; rintro e w7 ⟨rfl, hb7⟩; have d17 := (hb7.cell (p := ⟨g, o1 + 1, none⟩) hg6).trans d16; have d07 := (hb7.cell (p := ⟨g, o1, none⟩) hg6).trans d06)
      | (go_at_call_of 18 (Value.slice r1.A r1.n r1.c); refine (HHl1.out _ hb7).mono ?_; rintro e w8 ⟨rfl, hb8⟩; have hb68 := hb7.trans (hb8.mono hb7.size); have d18 := (hb68.cell (p := ⟨g, o1 + 1, none⟩) hg6).trans d16; have d08 := (hb68.cell (p := ⟨g, o1, none⟩) hg6).trans d06))
    clear hb7 hb8 d17 d07
    go_cut [108, 109, 110] (fun s t v wc => s = .slice (some ⟨w8.heap.size, 0, none⟩) 5 5 ∧ t = .int .i64 5 ∧ v = .int .i64 0 ∧ wc = w8.drew.alloc (.cells #[.slice A4 u.length c4, .slice A5 m.length c5, .slice A6 c.length c6, .slice r0.A r0.n r0.c, .slice r1.A r1.n r1.c] 22))
    case first =>
      go_region_with (fail)
      all_goals
        go_wp2_with fail
        go_meet
        exact ⟨rfl, rfl, rfl, rfl⟩
    case rest =>
    obtain ⟨rfl, rfl, rfl, hwc⟩ := hcut
    have hb89 : Below w8.heap.size w8 wc := by rw [hwc]; exact (Below.refl _ _).drew.alloc (Nat.le_refl _) _
    have hL5 : Sl SlV.vals 1 wc wc.heap.size (some ⟨w8.heap.size, 0, none⟩) 5 [⟨A4, u.length, c4⟩, ⟨A5, m.length, c5⟩, ⟨A6, c.length, c6⟩, r0, r1] := by
      have := Sl.lit (enc := SlV.vals) (k := 1) w8.drew #[.slice A4 u.length c4, .slice A5 m.length c5, .slice A6 c.length c6, .slice r0.A r0.n r0.c, .slice r1.A r1.n r1.c] 22 [⟨A4, u.length, c4⟩, ⟨A5, m.length, c5⟩, ⟨A6, c.length, c6⟩, r0, r1] rfl SlV.vals_len
      rw [hwc]
      simpa using this
    clear hwc
    have hb69 := hb68.trans (hb89.mono hb68.size)
    have HSu := Lib.hid ((HO4.out.below hb69).sl Reg.vals_len); have HSm := Lib.hid ((HO5.out.below hb69).sl Reg.vals_len); have HSc := Lib.hid ((HO6.out.below hb69).sl Reg.vals_len)
    have HALL := Lib.hid (show ∀ (i : Nat) (r : SlV), [⟨A4, u.length, c4⟩, ⟨A5, m.length, c5⟩, ⟨A6, c.length, c6⟩, r0, r1][i]? = some r → ∃ zs, Rgs wc wc.heap.size r.A r.n zs ∧ pCheckL zs = 0 ∧ r.n ≤ 400 from fun i r hr => by
      match i, hr with
      | 0, hr => simp at hr; subst hr; exact ⟨u, HSu.out, HCu.out, zu⟩
      | 1, hr => simp at hr; subst hr; exact ⟨m, HSm.out, HCm.out, zm⟩
      | 2, hr => simp at hr; subst hr; exact ⟨c, HSc.out, HCc.out, zc⟩
      | 3, hr => simp at hr; subst hr; exact ⟨l0, HS06.out.here hb69, HC0.out, b0⟩
      | 4, hr => simp at hr; subst hr; exact ⟨l1, HS16.out.here hb69, HC1.out, b1⟩
      | n + 5, hr => simp at hr)
    generalize [(⟨A4, u.length, c4⟩ : SlV), ⟨A5, m.length, c5⟩, ⟨A6, c.length, c6⟩, r0, r1] = rs5 at hL5 HALL
    have HL5 := Lib.hid hL5; clear hL5
    have hb19 := hb16.trans (hb69.mono hb16.size)
    clear hb68 hb89 d06 d16 d08 d18 hg6
    obtain ⟨w9, rfl⟩ : ∃ W, W = wc := ⟨_, rfl⟩
    go_wp2_with fail
    go_loopw [20, 110] (fun _ i wr => ∃ j : Nat, j ≤ 5 ∧ i = .int .i64 j ∧ Below w9.heap.size w9 wr) (fun _ i _ => 5 - (intOf i).toNat)
    case atStart => exact ⟨0, by omega, rfl, Below.refl _ _⟩
    case round =>
      obtain ⟨j, hj, rfl, hbj⟩ := hrel
      by_cases hlt : j < 5
      · obtain ⟨gb, go, r, hgA, _, hrj, dj⟩ := (HL5.out.below hbj).slv hlt
        obtain ⟨zs, hzs, hz0, hzn⟩ := HALL.out j r hrj
        injection hgA with hgA
        injection hgA with e1 e2
        subst e1; subst e2
        simp only [Nat.zero_add] at dj
        have HZ := Lib.hid (Check_any r.A r.n r.c zs wr (hzs.here hbj) (by omega))
        rw [hz0] at HZ
        clear hzs hz0 hrj
        go_wp2_with (go_at_call 15; refine HZ.out.mono ?_; rintro e wk ⟨rfl, hbk⟩)
        go_roundw
        case rel => exact ⟨j + 1, by omega, by go_num, hbj.trans (hbk.mono hbj.size)⟩
        case measure => simp [intOf]; omega
      · obtain ⟨wr', rfl⟩ : ∃ W, W = wr := ⟨_, rfl⟩
        have HPu := Lib.hid (fun (W : World) (h : Below w9.heap.size w9 W) => Has_any A4 u.length c4 u d k W (HSu.out.here h) (by omega))
        have HPm := Lib.hid (fun (W : World) (h : Below w9.heap.size w9 W) => Has_any A5 m.length c5 m d k W (HSm.out.here h) (by omega))
        have HPc := Lib.hid (fun (W : World) (h : Below w9.heap.size w9 W) => Has_any A6 c.length c6 c d k W (HSc.out.here h) (by omega))
        rw [HHu.out] at HPu
        rw [HHm.out] at HPm
        rw [HHc.out] at HPc
        clear HHu HHm HHc HH0 HH1 HALL HL5 HSu HSm HSc hbb hbb2
        cases bx <;> cases by_ <;>
        · go_wp2_with (first
            | (go_at_call_of 18 (Value.slice A4 u.length c4); refine (HPu.out _ hbj).mono ?_; rintro e wa ⟨rfl, hba⟩; have hbj2 := hbj.trans (hba.mono hbj.size))
            | (go_at_call_of 18 (Value.slice A5 m.length c5); refine (HPm.out _ hbj2).mono ?_; rintro e wb ⟨rfl, hbb⟩; have hbj3 := hbj2.trans (hbb.mono hbj2.size))
            | (go_at_call_of 18 (Value.slice A6 c.length c6); refine (HPc.out _ hbj3).mono ?_; rintro e wd ⟨rfl, hbd⟩; have hbj4 := hbj3.trans (hbd.mono hbj3.size))
            | (go_at_call 10; refine (awake_any _).mono ?_; rintro e we ⟨rfl, hbe⟩))
          go_ret
          exact ⟨rfl, hb01.trans ((hb19.trans ((hbj4.trans (hbe.mono hbj4.size)).mono hb19.size)).mono hb01.size)⟩
end Go.Proofs.YtiefdlfninhbgaaGreatDoor
