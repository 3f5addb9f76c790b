/- The law BitimeUnique: its walk. -/
import Derived.Test.YtiefdlfninhbgaaGreatDoorAw
import Derived.Test.YtiefdlfninhbgaaGreatDoorLM
import Derived.Test.YtiefdlfninhbgaaGreatDoorT6
import Derived.Test.YtiefdlfninhbgaaGreatDoorC1
import Derived.Test.YtiefdlfninhbgaaGreatDoorRB

import Derived.Test.YtiefdlfninhbgaaGreatDoorSt
import Derived.Deep.RegionHeld3
import Derived.Deep.DeepCutAuto
namespace Go.Proofs.YtiefdlfninhbgaaGreatDoor
open Go.RowKit Go.Shelf

theorem keep12 {w W : World} {p q z : Nat} {a b c : Reg} (hp : RegB w p a) (hq : RegB w q b) (hz : RegB w z c) (h : Below w.heap.size w W) :
    W.cell? ⟨p, 0, none⟩ = some (.int .i64 a.fr) ∧ W.cell? ⟨p, 1, none⟩ = some (.int .i64 a.to) ∧ W.cell? ⟨p, 2, none⟩ = some (.int .i64 a.si) ∧ W.cell? ⟨p, 3, none⟩ = some (.int .i64 a.un)
      ∧ W.cell? ⟨q, 0, none⟩ = some (.int .i64 b.fr) ∧ W.cell? ⟨q, 1, none⟩ = some (.int .i64 b.to) ∧ W.cell? ⟨q, 2, none⟩ = some (.int .i64 b.si) ∧ W.cell? ⟨q, 3, none⟩ = some (.int .i64 b.un)
      ∧ W.cell? ⟨z, 0, none⟩ = some (.int .i64 c.fr) ∧ W.cell? ⟨z, 1, none⟩ = some (.int .i64 c.to) ∧ W.cell? ⟨z, 2, none⟩ = some (.int .i64 c.si) ∧ W.cell? ⟨z, 3, none⟩ = some (.int .i64 c.un) := by
  obtain ⟨p0, p1, p2, p3⟩ := (hp.here h).cells
  obtain ⟨q0, q1, q2, q3⟩ := (hq.here h).cells
  obtain ⟨z0, z1, z2, z3⟩ := (hz.here h).cells
  exact ⟨p0, p1, p2, p3, q0, q1, q2, q3, z0, z1, z2, z3⟩
/-- The world in which BitimeUnique's last list is put together. -/
def cutW (ba oa na ca kk : Nat) (rx rv rz : Reg) (w : World) : World :=
  ((w.alloc (.cells #[.int .i64 rx.fr, .int .i64 rx.to, .int .i64 rx.si, .int .i64 rx.un, .int .i64 rv.fr, .int .i64 rv.to, .int .i64 rv.si, .int .i64 rv.un, .int .i64 rz.fr, .int .i64 rz.to, .int .i64 rz.si, .int .i64 rz.un] 35)).alloc (.cells #[.slice (some ⟨ba, oa, none⟩) kk ca, .slice (some ⟨w.heap.size, 0, none⟩) 3 3, .slice (if ca = kk + 1 then some ⟨ba, oa, none⟩ else some ⟨ba, oa + (kk + 1) * 4, none⟩) (na - (kk + 1)) (ca - (kk + 1))] 22)).drew
theorem cutW_below {B ba oa na ca kk : Nat} {rx rv rz : Reg} {w0 w : World} (h : Below B w0 w) (hB : B ≤ w.heap.size) : Below B w0 (cutW ba oa na ca kk rx rv rz w) :=
  ((h.alloc hB _).alloc (by simp; omega) _).drew
theorem concat_cut (ba oa na ca kk : Nat) (xs : List Reg) (rx rv rz : Reg) (w : World) (h : Rgs w w.heap.size (some ⟨ba, oa, none⟩) na xs) (hk : kk < na) (hn : na ≤ 9) (hc : na ≤ ca) :
    Calls Tryz.prog 30 #[.slice (some ⟨w.heap.size + 1, 0, none⟩) 3 3] (cutW ba oa na ca kk rx rv rz w) (RetOwn Reg.vals 4 35 (cutW ba oa na ca kk rx rv rz w).heap.size (cutW ba oa na ca kk rx rv rz w) [xs.take kk, [rx, rv, rz], xs.drop (kk + 1)].flatten) := by
  have hxn := h.1
  unfold cutW
  have hD : Rgs w w.heap.size (if ca = kk + 1 then some ⟨ba, oa, none⟩ else some ⟨ba, oa + (kk + 1) * 4, none⟩) (na - (kk + 1)) (xs.drop (kk + 1)) := by
    split
    · exact ⟨by rw [List.length_drop, ← hxn], fun h => absurd h (by omega)⟩
    · exact h.drop (by omega)
  generalize (if ca = kk + 1 then some (⟨ba, oa, none⟩ : Addr) else some ⟨ba, oa + (kk + 1) * 4, none⟩) = A3 at *
  have hT : Rgs w w.heap.size (some ⟨ba, oa, none⟩) kk (xs.take kk) := h.take (by omega)
  have hM := Sl.lit (enc := Reg.vals) (k := 4) w #[.int .i64 rx.fr, .int .i64 rx.to, .int .i64 rx.si, .int .i64 rx.un, .int .i64 rv.fr, .int .i64 rv.to, .int .i64 rv.si, .int .i64 rv.un, .int .i64 rz.fr, .int .i64 rz.to, .int .i64 rz.si, .int .i64 rz.un] 35 [rx, rv, rz] rfl Reg.vals_len
  have hb1 := (Below.refl w.heap.size w).alloc (Nat.le_refl _) (.cells #[.int .i64 rx.fr, .int .i64 rx.to, .int .i64 rx.si, .int .i64 rx.un, .int .i64 rv.fr, .int .i64 rv.to, .int .i64 rv.si, .int .i64 rv.un, .int .i64 rz.fr, .int .i64 rz.to, .int .i64 rz.si, .int .i64 rz.un] 35)
  have hsz : (w.alloc (.cells #[.int .i64 rx.fr, .int .i64 rx.to, .int .i64 rx.si, .int .i64 rx.un, .int .i64 rv.fr, .int .i64 rv.to, .int .i64 rv.si, .int .i64 rv.un, .int .i64 rz.fr, .int .i64 rz.to, .int .i64 rz.si, .int .i64 rz.un] 35)).heap.size = w.heap.size + 1 := by simp
  generalize w.alloc (.cells #[.int .i64 rx.fr, .int .i64 rx.to, .int .i64 rx.si, .int .i64 rx.un, .int .i64 rv.fr, .int .i64 rv.to, .int .i64 rv.si, .int .i64 rv.un, .int .i64 rz.fr, .int .i64 rz.to, .int .i64 rz.si, .int .i64 rz.un] 35) = W13 at *
  have hL := Sl.lit (enc := SlV.vals) (k := 1) W13 #[.slice (some ⟨ba, oa, none⟩) kk ca, .slice (some ⟨w.heap.size, 0, none⟩) 3 3, .slice A3 (na - (kk + 1)) (ca - (kk + 1))] 22 [⟨some ⟨ba, oa, none⟩, kk, ca⟩, ⟨some ⟨w.heap.size, 0, none⟩, 3, 3⟩, ⟨A3, na - (kk + 1), ca - (kk + 1)⟩] rfl SlV.vals_len
  have hb2 := (Below.refl W13.heap.size W13).alloc (Nat.le_refl _) (.cells #[.slice (some ⟨ba, oa, none⟩) kk ca, .slice (some ⟨w.heap.size, 0, none⟩) 3 3, .slice A3 (na - (kk + 1)) (ca - (kk + 1))] 22)
  rw [hsz] at hL
  have hM' : Rgs W13 W13.heap.size (some ⟨w.heap.size, 0, none⟩) 3 [rx, rv, rz] := by rw [hsz]; exact hM
  refine concat_any (some ⟨w.heap.size + 1, 0, none⟩) 3 3 [⟨some ⟨ba, oa, none⟩, kk, ca⟩, ⟨some ⟨w.heap.size, 0, none⟩, 3, 3⟩, ⟨A3, na - (kk + 1), ca - (kk + 1)⟩] _ _ ?_ ⟨rfl, ?_⟩ (by omega) ?_
  · refine (Sl.more (show Sl SlV.vals 1 _ (w.heap.size + 1 + 1) _ _ _ from hL) ?_).drew
    simp [hsz]
  · intro i r x hr hx
    match i, hr, hx with
    | 0, hr, hx => simp at hr hx; subst hr; subst hx; exact ((hT.here hb1).here hb2).drew
    | 1, hr, hx => simp at hr hx; subst hr; subst hx; exact (hM'.here hb2).drew
    | 2, hr, hx => simp at hr hx; subst hr; subst hx; exact ((hD.here hb1).here hb2).drew
    | n + 3, hr, hx => simp at hr
  · intro x hx
    simp only [List.mem_cons, List.not_mem_nil, or_false] at hx
    rcases hx with rfl | rfl | rfl
    · rw [List.length_take]; omega
    · simp
    · rw [List.length_drop]; omega

set_option maxRecDepth 100000 in
set_option maxHeartbeats 8000000 in
theorem unique_law (Aa : Option Addr) (na ca : Nat) (xs : List Reg) (at_ d k : Int) (hat : (Lit.int .u8 at_).wf = true) (w : World) (ha : Rgs w w.heap.size Aa na xs) (hna : na ≤ maxLen) (hca : na ≤ ca) :
    Calls Tryz.prog 7 #[.slice Aa na ca, .int .u8 at_, .int .i64 d, .int .i64 k] w fun e w' => e = .returned (.bool true) ∧ Below w.heap.size w w' := by
  have hL0 := Sl.lit (enc := SlV.vals) (k := 1) w #[.slice Aa na ca] 22 [⟨Aa, na, ca⟩] rfl SlV.vals_len
  have hb0 : Below w.heap.size w (w.alloc (.cells #[.slice Aa na ca] 22)) := (Below.refl _ _).alloc (Nat.le_refl _) _
  have hRA : RgsAll (w.alloc (.cells #[.slice Aa na ca] 22)) (w.alloc (.cells #[.slice Aa na ca] 22)).heap.size [⟨Aa, na, ca⟩] [xs] := by
    refine ⟨rfl, fun i r x hr hx => ?_⟩
    match i, hr, hx with
    | 0, hr, hx => simp at hr hx; subst hr; subst hx; exact ha.here hb0
    | n + 1, hr, hx => simp at hr
  have HLN := Lib.hid (lnormal_any (some ⟨w.heap.size, 0, none⟩) 1 1 [⟨Aa, na, ca⟩] [xs] _ (by simpa using hL0) hRA (by omega) (fun r hr => by simp at hr; subst hr; assumption))
  have HA := Lib.hid (ha.here hb0); have HB0 := Lib.hid hb0
  have HAT := Lib.hid hat
  have hna2 : na ≤ 9223372036854775807 := hna
  clear hL0 hRA ha hb0 hna hat
  go_enter Tryz.func7, Tryz.ntmps7
  go_wp2_with fail
  generalize w.alloc (.cells #[.slice Aa na ca] 22) = W0 at *
  refine HLN.out.mono ?_
  rintro e w1 ⟨hb1, ⟨hno, rfl⟩ | ⟨hyes, A', c', rs, rfl, hoR, hoA⟩⟩
  · clear hno HLN
    have hb01 := HB0.out.trans (hb1.mono HB0.out.size)
    go_wp2_with (go_at_call 10; refine (awake_any _).mono ?_; rintro e w2 ⟨rfl, hb2⟩)
    go_ret
    exact ⟨rfl, hb01.trans (hb2.mono hb01.size)⟩
  · clear HLN
    simp only [List.all_cons, List.all_nil, Bool.and_true] at hyes
    obtain ⟨hx1, hx2, hx3⟩ := okN_ok hyes
    clear hyes
    have hnx : na ≤ 10 := by rw [HA.out.1]; exact hx1
    have hb01 := HB0.out.trans (hb1.mono HB0.out.size)
    by_cases hn0 : na = 0
    · subst hn0
      clear hoR hoA hx1 hx2 hx3
      go_wp2_with (go_at_call 10; refine (awake_any _).mono ?_; rintro e w2 ⟨rfl, hb2⟩)
      go_ret
      exact ⟨rfl, hb01.trans (hb2.mono hb01.size)⟩
    · have hnp : 0 < na := by omega
      have hz0 : ((na : Int) == 0) = false := by simp; omega
      by_cases hn9 : 9 < na
      · clear hoR hoA hx1 hx2 hx3
        go_wp2_with (go_at_call 10; refine (awake_any _).mono ?_; rintro e w2 ⟨rfl, hb2⟩)
        go_ret
        exact ⟨rfl, hb01.trans (hb2.mono hb01.size)⟩
      · have hn9' : na ≤ 9 := by omega
        have HN1 := Lib.hid (norm_one hx1 hx3)
        have HN2 := Lib.hid (norm_again hx1 hx3)
        have HN3 := Lib.hid (norm_turn hx1 hx3)
        have hrl : rs.length = 1 := by have := hoR.facts.1; omega
        obtain ⟨r0, rfl⟩ : ∃ r0, rs = [r0] := by
          match rs, hrl with
          | [a], _ => exact ⟨a, rfl⟩
        have ho0 : Own Reg.vals 4 35 w1 W0.heap.size (.slice r0.A r0.n r0.c) (pNormL xs).1 := hoA.2 0 r0 _ rfl rfl
        rw [HN1.out] at ho0
        have hsm : (pNormal xs).length ≤ 400 := (pNormal_nf xs).small (by omega) (Drawn.has xs xs (fun r h => h))
        obtain ⟨g, o1, s0, hA', hg, hs0, d0⟩ := (hoR.sl SlV.vals_len).slv (i := 0) (by omega)
        subst hA'
        simp at hs0
        subst hs0
        simp only [Nat.add_zero] at d0
        obtain ⟨hl0, _⟩ := ho0.facts
        have b0 : r0.n ≤ 400 := by simp only at hl0; omega
        have HS0 := Lib.hid (ho0.sl Reg.vals_len)
        have HAx := Lib.hid (HA.out.here hb1)
        have HX3 := Lib.hid hx3
        have HXN := Lib.hid HA.out.1
        simp only at HS0
        clear ho0 hl0 hoA hoR HN1 hx2 hx3 HA HB0 hn0 hn9 hb1
        generalize hpn : pNormal xs = pn at *
        have HPN := Lib.hid hpn; clear hpn
        obtain ⟨ba, oa, hAa, hba, _⟩ := HAx.out.2 hnp
        subst hAa
        go_wp2_with fail
        refine (cloneR_any ba oa na ca xs w1 HAx.out (by omega)).mono ?_
        rintro e w2 ⟨A2, c2, rfl, ho2, hb2⟩
        obtain ⟨_, _, _, hf2⟩ := ho2.facts
        rcases hf2 with ⟨_, _, hnil⟩ | ⟨g2, rfl, hg2a, hg2b⟩
        · exfalso; have := HXN.out; rw [hnil] at this; simp at this; omega
        · rw [← HXN.out] at ho2 ⊢
          go_wp2_with fail
          refine (reverseR_any w1.heap.size g2 na c2 xs w2 ho2 (by omega)).mono ?_
          rintro e w3 ⟨rfl, ho3, hb3⟩
          have hb13 : Below w1.heap.size w1 w3 := hb2.trans hb3
          have hsz23 : w2.heap.size ≤ w3.heap.size := hb3.size
          clear ho2 hb2 hb3
          have HO3 := Lib.hid ho3; clear ho3
          have d03 := (hb13.cell (p := ⟨g, o1, none⟩) hg).trans d0
          go_wp2_with fail
          have HNa := Lib.hid (Normal_any r0.A r0.n r0.c pn w3 (HS0.out.here hb13) (by omega))
          rw [HN2.out] at HNa
          refine HNa.out.mono ?_
          clear HNa HN2 d03
          rintro e w4 ⟨A4, c4, rfl, ho4, hb4⟩
          simp only at ho4
          have hb14 : Below w1.heap.size w1 w4 := hb13.trans (hb4.mono hb13.size)
          have HO34 := Lib.hid (HO3.out.below hb4); clear HO3
          have HO4 := Lib.hid ho4
          have hne4 : (Value.slice A4 pn.length c4).ownBlock = none ∨ (Value.slice A4 pn.length c4).ownBlock ≠ some g2 := by
            rcases ho4.facts.2.2.2 with ⟨rfl, _⟩ | ⟨g4, rfl, h1, _⟩
            · exact .inl rfl
            · right; simp only [Value.ownBlock]; intro h; injection h with h; omega
          have HNE4 := Lib.hid hne4; clear hne4 ho4
          have HXR := Lib.hid (show (xs.reverse).length = na by rw [List.length_reverse]; exact HXN.out.symm)
          go_wp2_with (at_builtin; refine wpList_app _ rfl (.tmp 53) (.tmp 54) _ rfl elemRegs Reg.vals_len Reg.vals_one (base := w1.heap.size) (.slice (some ⟨g2, 0, none⟩) na c2) xs.reverse rfl HO34.out _ _ na ca xs rfl (HAx.out.below hb14) (by rw [HXR.out]; omega) hb14.size ?_
                       intro A5 c5 w5 ho5 hg5 _
                       rw [HXR.out] at ho5 ⊢)
          have HO45 := Lib.hid (HO4.out.grown hg5 HNE4.out)
          have hb15 : Below w1.heap.size w1 w5 := below_grown hb14 hg5 hb14.size (fun g' e => by simp [Value.ownBlock] at e; omega)
          have hsz45 := hg5.size
          clear hg5 HO4 HNE4 HO34
          have HNb := Lib.hid (Normal_any A5 (na + na) c5 (xs.reverse ++ xs) w5 (ho5.sl Reg.vals_len) (by omega))
          rw [HN3.out] at HNb
          refine HNb.out.mono ?_
          clear HNb HN3 ho5
          rintro e w6 ⟨A6, c6, rfl, ho6, hb6⟩
          simp only at ho6
          have hb16 : Below w1.heap.size w1 w6 := hb15.trans (hb6.mono hb15.size)
          have HO46 := Lib.hid (HO45.out.below hb6); clear HO45
          have HO66 := Lib.hid ho6; clear ho6
          have d06 := (hb16.cell (p := ⟨g, o1, none⟩) hg).trans d0
          have HS06 := Lib.hid (HS0.out.here hb16)
          have HLN : Hid (r0.n = pn.length) := HS0.out.1
          go_wp2_with fail
          refine (equalR_any A4 r0.A _ r0.n c4 r0.c pn pn w6 (HO46.out.sl Reg.vals_len) HS06.out (by omega) (by omega)).mono ?_
          rintro e w7 ⟨rfl, z7, rfl⟩
          rw [show decide (pn = pn) = true from by simp]
          have d07 : (w6.drewN z7).cell? ⟨g, o1, none⟩ = some (.slice r0.A r0.n r0.c) := d06
          go_wp2_with fail
          refine (equalR_any A6 r0.A _ r0.n c6 r0.c pn pn _ ((HO66.out.drewN z7).sl Reg.vals_len) (HS06.out.drewN z7) (by omega) (by omega)).mono ?_
          rintro e w8 ⟨rfl, z8, rfl⟩
          rw [show decide (pn = pn) = true from by simp]
          clear d06 d07 HO46 HO66
          have hb18 : Below w1.heap.size w1 ((w6.drewN z7).drewN z8) := bdN (bdN hb16 z7) z8
          have hbaw : ba < ((w6.drewN z7).drewN z8).heap.size := Nat.lt_of_lt_of_le hba hb16.size
          generalize (w6.drewN z7).drewN z8 = W8 at *
          have hat2 : 0 ≤ at_ ∧ at_ ≤ 255 := by have := HAT.out; simp [Lit.wf] at this; have e1 : IntKind.u8.min = 0 := rfl; have e2 : IntKind.u8.max = 255 := rfl; omega
          obtain ⟨hat0, hat1⟩ := hat2
          go_wp2_with fail
          obtain ⟨kk, hkk, hkn⟩ : ∃ kk : Nat, at_ % (na : Int) = kk ∧ kk < na := by
            have h1 := Int.emod_nonneg at_ (show (na : Int) ≠ 0 by omega)
            have h2 := Int.emod_lt_of_pos at_ (show (0 : Int) < na by omega)
            exact ⟨(at_ % (na : Int)).toNat, by omega, by omega⟩
          rw [hkk]
          have HKK := Lib.hid hkk; clear hkk
          obtain ⟨ba', oa', r, e', _, hxk, x0, x1, x2, x3⟩ := (HAx.out.here hb18).reg (i := kk) hkn
          injection e' with e'
          injection e' with e1 e2
          subst e1; subst e2
          have HXK := Lib.hid hxk; clear hxk
          go_cut [17, 18] (fun s t wc => ∃ p q, s = .pointer (some ⟨p, 0, none⟩) ∧ t = .pointer (some ⟨q, 0, none⟩) ∧ Hid (p ≠ q) ∧ Hid (RegB wc p r) ∧ Hid (RegB wc q r) ∧ W8.heap.size ≤ p ∧ W8.heap.size ≤ q ∧ Below W8.heap.size W8 wc)
          case first =>
            go_region_held3 (fun w' => w'.cell? ⟨ba, oa + kk * 4, none⟩ = some (.int .i64 r.fr) ∧ w'.cell? ⟨ba, oa + kk * 4 + 1, none⟩ = some (.int .i64 r.to) ∧ w'.cell? ⟨ba, oa + kk * 4 + 2, none⟩ = some (.int .i64 r.si) ∧ w'.cell? ⟨ba, oa + kk * 4 + 3, none⟩ = some (.int .i64 r.un)) (first | go_keep) (fail)
            · go_wp2_with fail
              go_meet
              exact ⟨W8.heap.size, W8.heap.size + 1, rfl, rfl, by show _ ≠ _; omega, ((RegB.new W8 r).alloc _).drew, (RegB.new2 W8 _ r).drew, Nat.le_refl _, by omega, (((Below.refl _ W8).alloc (Nat.le_refl _) _).alloc (by simp) _).drew⟩
            · go_wp2_with fail
              go_meet
              exact ⟨W8.heap.size + 1, W8.heap.size, rfl, rfl, by show _ ≠ _; omega, (RegB.new2 W8 _ r).drew, ((RegB.new W8 r).alloc _).drew, by omega, Nat.le_refl _, (((Below.refl _ W8).alloc (Nat.le_refl _) _).alloc (by simp) _).drew⟩
          case rest =>
          obtain ⟨p, q, rfl, rfl, HPQ, HRp, HRq, hp, hq, hbc⟩ := hcut
          clear x0 x1 x2 x3
          obtain ⟨p0, p1, p2, p3⟩ := HRp.out.cells
          obtain ⟨q0, q1, q2, q3⟩ := HRq.out.cells
          have fp := HRp.out.frozen 1
          have fq := HRq.out.frozen 0
          obtain ⟨w9, rfl⟩ : ∃ W, W = wc := ⟨_, rfl⟩
          go_upto_region 12 with (fail)
          go_cut [103] (fun s wc => s = .bool (decide (r.fr < d ∧ d < r.to)) ∧ wc = w9)
          case first =>
            by_cases h1 : r.fr < d
            · by_cases h2 : d < r.to
              all_goals
                go_wp2_with fail
                go_meet
                exact ⟨by simp [h1, h2], rfl⟩
            · have HF := Lib.hid (show decide (r.fr < d ∧ d < r.to) = false by simp; omega)
              go_wp2_with fail
              go_meet
              exact ⟨by rw [HF.out], rfl⟩
          case rest =>
          obtain ⟨rfl, hwc⟩ := hcut
          subst hwc
          go_upto_if 103 with (fail)
          go_cut [17, 18] (fun s t wc2 => s = .pointer (some ⟨p, 0, none⟩) ∧ t = .pointer (some ⟨q, 0, none⟩) ∧ Hid (RegB wc2 p (cutX r d)) ∧ Hid (RegB wc2 q (cutY0 r d)) ∧ Below W8.heap.size W8 wc2)
          case first =>
            by_cases hc : r.fr < d ∧ d < r.to
            · have hdc : decide (r.fr < d ∧ d < r.to) = true := by simp [hc]
              have HC := Lib.hid hc; clear hc
              rw [hdc]; clear hdc
              go_wp2_with fail
              go_meet
              refine ⟨rfl, rfl, ?_, ?_, (hbc.setCell hp _).setCell hq _⟩
              · show RegB _ _ _
                unfold cutX
                rw [if_pos HC.out]
                exact (HRp.out.set_ 1 _ (s := ⟨r.fr, d, r.si, r.un⟩) rfl).far (by exact HPQ.out) _
              · show RegB _ _ _
                unfold cutY0
                rw [if_pos HC.out]
                exact (HRq.out.far (fun e => HPQ.out e.symm) _).set_ 0 _ (s := ⟨d, r.to, r.si, r.un⟩) rfl
            · have hdc : decide (r.fr < d ∧ d < r.to) = false := by simpa using hc
              have HC := Lib.hid hc; clear hc
              rw [hdc]; clear hdc
              go_wp2_with fail
              go_meet
              refine ⟨rfl, rfl, ?_, ?_, hbc⟩
              · show RegB _ _ _
                unfold cutX
                rw [if_neg HC.out]
                exact HRp.out
              · show RegB _ _ _
                unfold cutY0
                rw [if_neg HC.out]
                exact HRq.out
          case rest =>
          clear p0 p1 p2 p3 q0 q1 q2 q3 fp fq HRp HRq hbc
          obtain ⟨rfl, rfl, HRp, HRq, hbc⟩ := hcut
          have HY0 := Lib.hid (show cutY0 r d = cutY0 r d from rfl)
          generalize hrx : cutX r d = rx at *
          have HRX := Lib.hid hrx; clear hrx
          generalize hry : cutY0 r d = ry at *
          have HRY := Lib.hid hry; clear hry HY0
          obtain ⟨q0, q1, q2, q3⟩ := HRq.out.cells
          obtain ⟨w10, rfl⟩ : ∃ W, W = wc := ⟨_, rfl⟩
          go_upto_region 15 with (fail)
          have HRz := Lib.hid (RegB.new w10 ry)
          have HRp1 := Lib.hid (HRp.out.alloc (.cells #[.int .i64 ry.fr, .int .i64 ry.to, .int .i64 ry.si, .int .i64 ry.un] 35))
          have HRq1 := Lib.hid (HRq.out.alloc (.cells #[.int .i64 ry.fr, .int .i64 ry.to, .int .i64 ry.si, .int .i64 ry.un] 35))
          have hbd := hbc.alloc hbc.size (.cells #[.int .i64 ry.fr, .int .i64 ry.to, .int .i64 ry.si, .int .i64 ry.un] 35)
          have hqz : Hid (q ≠ w10.heap.size) := by show _ ≠ _; have := HRq.out.lt; omega
          have hpz : Hid (p ≠ w10.heap.size) := by show _ ≠ _; have := HRp.out.lt; omega
          have hz : W8.heap.size ≤ w10.heap.size := hbc.size
          clear q0 q1 q2 q3 HRp HRq hbc
          generalize w10.alloc (.cells #[.int .i64 ry.fr, .int .i64 ry.to, .int .i64 ry.si, .int .i64 ry.un] 35) = w11 at *
          generalize w10.heap.size = zb at *
          obtain ⟨q0, q1, q2, q3⟩ := HRq1.out.cells
          obtain ⟨z0, z1, z2, z3⟩ := HRz.out.cells
          have fq := HRq1.out.frozen 3
          have fz := HRz.out.frozen 2
          go_cut [118] (fun s wc => s = .bool (decide (ry.si < k ∧ k < ry.un)) ∧ wc = w11)
          case first =>
            by_cases h1 : ry.si < k
            · by_cases h2 : k < ry.un
              all_goals
                go_wp2_with fail
                go_meet
                exact ⟨by simp [h1, h2], rfl⟩
            · have HF := Lib.hid (show decide (ry.si < k ∧ k < ry.un) = false by simp; omega)
              go_wp2_with fail
              go_meet
              exact ⟨by rw [HF.out], rfl⟩
          case rest =>
          obtain ⟨rfl, hwc⟩ := hcut
          subst hwc
          go_upto_if 118 with (fail)
          go_cut [17, 18, 19] (fun s t u wc2 => s = .pointer (some ⟨p, 0, none⟩) ∧ t = .pointer (some ⟨q, 0, none⟩) ∧ u = .pointer (some ⟨zb, 0, none⟩) ∧ Hid (RegB wc2 p rx) ∧ Hid (RegB wc2 q (cutY ry k)) ∧ Hid (RegB wc2 zb (cutZ ry k)) ∧ Below W8.heap.size W8 wc2)
          case first =>
            by_cases hc : ry.si < k ∧ k < ry.un
            · have hdc : decide (ry.si < k ∧ k < ry.un) = true := by simp [hc]
              have HC := Lib.hid hc; clear hc
              rw [hdc]; clear hdc
              go_wp2_with fail
              go_meet
              refine ⟨rfl, rfl, rfl, ?_, ?_, ?_, (hbd.setCell hq _).setCell hz _⟩
              · exact (HRp1.out.far (by exact HPQ.out) _).far (by exact hpz.out) _
              · show RegB _ _ _
                unfold cutY
                rw [if_pos HC.out]
                exact (HRq1.out.set_ 3 _ (s := ⟨ry.fr, ry.to, ry.si, k⟩) rfl).far (by exact hqz.out) _
              · show RegB _ _ _
                unfold cutZ
                rw [if_pos HC.out]
                exact (HRz.out.far (fun e => hqz.out e.symm) _).set_ 2 _ (s := ⟨ry.fr, ry.to, k, ry.un⟩) rfl
            · have hdc : decide (ry.si < k ∧ k < ry.un) = false := by simpa using hc
              have HC := Lib.hid hc; clear hc
              rw [hdc]; clear hdc
              go_wp2_with fail
              go_meet
              refine ⟨rfl, rfl, rfl, HRp1, ?_, ?_, hbd⟩
              · show RegB _ _ _
                unfold cutY
                rw [if_neg HC.out]
                exact HRq1.out
              · show RegB _ _ _
                unfold cutZ
                rw [if_neg HC.out]
                exact HRz.out
          case rest =>
          clear q0 q1 q2 q3 z0 z1 z2 z3 fq fz HRp1 HRq1 HRz hbd
          obtain ⟨rfl, rfl, rfl, HRp, HRq, HRz, hbc⟩ := hcut
          have hbd := hb18.trans (hbc.mono hb18.size)
          generalize hrv : cutY ry k = rv at *
          generalize hrz : cutZ ry k = rz at *
          have HRV := Lib.hid hrv; have HRZ := Lib.hid hrz; clear hrv hrz
          obtain ⟨p0, p1, p2, p3⟩ := HRp.out.cells
          obtain ⟨q0, q1, q2, q3⟩ := HRq.out.cells
          obtain ⟨z0, z1, z2, z3⟩ := HRz.out.cells
          obtain ⟨w12, rfl⟩ : ∃ W, W = wc := ⟨_, rfl⟩
          have HALL := Lib.hid (HAx.out.here hbd)
          have HCC := Lib.hid (concat_cut ba oa na ca kk xs rx rv rz w12 HALL.out hkn hn9' hca)
          have HCL := Lib.hid (show [xs.take kk, [rx, rv, rz], xs.drop (kk + 1)].flatten = cutL xs kk r d k by unfold cutL; rw [HRX.out, HRY.out, HRV.out, HRZ.out]; simp)
          rw [HCL.out] at HCC
          have hcl : (cutL xs kk r d k).length ≤ 12 := by rw [cutL_len (by have := HXN.out; omega)]; omega
          have HNC := Lib.hid (norm_cut HXK.out d k hx1 HX3.out)
          rw [HPN.out] at HNC
          clear HCL
          generalize cutL xs kk r d k = cl at *
          have HBY := Lib.hid (cutW_below (ba := ba) (oa := oa) (na := na) (ca := ca) (kk := kk) (rx := rx) (rv := rv) (rz := rz) hbd hbd.size)
          have HBX := Lib.hid (cutW_below (ba := ba) (oa := oa) (na := na) (ca := ca) (kk := kk) (rx := rx) (rv := rv) (rz := rz) (Below.refl w12.heap.size w12) (Nat.le_refl _))
          unfold cutW at HCC HBY HBX
          generalize hA3 : (if ca = kk + 1 then some (⟨ba, oa, none⟩ : Addr) else some ⟨ba, oa + (kk + 1) * 4, none⟩) = A3 at HCC HBY HBX
          have HNN := Lib.hid (fun (A9 : Option Addr) (c9 : Nat) (W : World) (h : Own Reg.vals 4 35 W 0 (.slice A9 cl.length c9) cl) => Normal_any A9 cl.length c9 cl W (h.sl Reg.vals_len) (by omega))
          rw [HNC.out] at HNN
          have i4 : (kk : Int) ≤ (na : Int) := by omega
          have i5 : (kk : Int) + 1 ≤ (na : Int) := by omega
          have i6 : (na : Int) ≤ (ca : Int) := by omega
          have i7 : (kk : Int) ≤ (ca : Int) := by omega
          have i2 : 0 ≤ (kk : Int) + 1 := by omega
          have i3 : ((kk : Int) + 1).toNat = kk + 1 := by omega
          have i1 : IntKind.i64.wrap ((kk : Int) + 1) = (kk : Int) + 1 := IntWalk.i64_in _ (by omega)
          go_upto_region 17 with (fail)
          go_cut [20, 21] (fun s t wc => ∃ A9 c9, s = .slice A9 pn.length c9 ∧ t = .int .i64 0 ∧ Hid (Rgs wc wc.heap.size A9 pn.length pn) ∧ Below w1.heap.size w1 wc)
          case first =>
            go_region_held3 (fun w' => w'.cell? ⟨p, 0, none⟩ = some (.int .i64 rx.fr) ∧ w'.cell? ⟨p, 1, none⟩ = some (.int .i64 rx.to) ∧ w'.cell? ⟨p, 2, none⟩ = some (.int .i64 rx.si) ∧ w'.cell? ⟨p, 3, none⟩ = some (.int .i64 rx.un)
                ∧ w'.cell? ⟨q, 0, none⟩ = some (.int .i64 rv.fr) ∧ w'.cell? ⟨q, 1, none⟩ = some (.int .i64 rv.to) ∧ w'.cell? ⟨q, 2, none⟩ = some (.int .i64 rv.si) ∧ w'.cell? ⟨q, 3, none⟩ = some (.int .i64 rv.un)
                ∧ w'.cell? ⟨zb, 0, none⟩ = some (.int .i64 rz.fr) ∧ w'.cell? ⟨zb, 1, none⟩ = some (.int .i64 rz.to) ∧ w'.cell? ⟨zb, 2, none⟩ = some (.int .i64 rz.si) ∧ w'.cell? ⟨zb, 3, none⟩ = some (.int .i64 rz.un)) (first | go_keep | exact keep12 HRp.out HRq.out HRz.out (HBX.out.trans (hb9.mono HBX.out.size)) | exact keep12 HRp.out HRq.out HRz.out (HBX.out.trans ((hb9.trans (hb10.mono hb9.size)).mono HBX.out.size)))
              (first
                | (go_at_call 30; refine HCC.out.mono ?_; rintro e w13 ⟨A9, c9, rfl, ho9, hb9⟩)
                | (go_at_call 11; refine (HNN.out A9 c9 _ (ho9.base_ (Nat.zero_le _))).mono ?_; rintro e w14 ⟨A10, c10, rfl, ho10, hb10⟩))
            all_goals
              go_wp2_with fail
              go_meet
              have hbe := HBY.out.trans (hb9.mono HBY.out.size)
              exact ⟨A10, c10, rfl, rfl, ho10.sl Reg.vals_len, hbe.trans (hb10.mono hbe.size)⟩
          case rest =>
          obtain ⟨A9, c9, rfl, rfl, HR9, hbf⟩ := hcut
          clear p0 p1 p2 p3 q0 q1 q2 q3 z0 z1 z2 z3 i1 i2 i3 i4 i5 i6 i7 HRp HRq HRz hbd hbc HCC HNN HBY HALL
          have d09 := (hbf.cell (p := ⟨g, o1, none⟩) hg).trans d0
          have HS09 := Lib.hid (HS0.out.here hbf)
          go_wp2_with fail
          refine (equalR_any A9 r0.A _ r0.n c9 r0.c pn pn _ HR9.out HS09.out (by omega) (by omega)).mono ?_
          rintro e w15 ⟨rfl, z15, rfl⟩
          rw [show decide (pn = pn) = true from by simp]
          go_wp2_with (go_at_call 10; refine (awake_any _).mono ?_; rintro e w16 ⟨rfl, hb16'⟩)
          go_ret
          exact ⟨rfl, hb01.trans (((bdN hbf z15).trans (hb16'.mono hbf.size)).mono hb01.size)⟩
end Go.Proofs.YtiefdlfninhbgaaGreatDoor
