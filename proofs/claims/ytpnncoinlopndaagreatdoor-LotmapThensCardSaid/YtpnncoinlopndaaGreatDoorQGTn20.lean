/- Merged texts: Gn, Mq6, Li, Lt4. -/
import Derived.Test.YtpnncoinlopndaaGreatDoorQGTn12
import Derived.Test.YtpnncoinlopndaaGreatDoorQGTn16
import Derived.Test.YtpnncoinlopndaaGreatDoorQGTn10
import Derived.Test.YtpnncoinlopndaaGreatDoorQGTn14
import Derived.Test.YtpnncoinlopndaaGreatDoorMfqGTn
import Derived.Deep.RegionHeld3
import Derived.Deep.DrawnRows
import Derived.Deep.DeepCutAuto
import Derived.Test.YtpnncoinlopndaaGreatDoorQGTn15
namespace Go.Proofs.YtpnncoinlopndaaGreatDoor
open Go.RowKit Go.Shelf
attribute [local go_sem ↓] Go.wp_at_zero Go.wp_at_succ ld84_eq
theorem sign_zero (q : Rat) : (cmpR q 0 == 0) = decide (q = 0) := by
  unfold cmpR
  by_cases h1 : q < 0
  · have : q ≠ 0 := fun e => by rw [e] at h1; exact Rat.lt_irrefl h1
    simp [h1, this]
  · rw [if_neg h1]
    by_cases h2 : 0 < q
    · have : q ≠ 0 := fun e => by rw [e] at h2; exact Rat.lt_irrefl h2
      simp [h2, this]
    · have h1' := Rat.not_lt.1 h1; have h2' := Rat.not_lt.1 h2
      have : q = 0 := Rat.le_antisymm h2' h1'
      simp [this]
def gainC (g : Gain) : Array Value := #[.string ⟨g.cause.toArray⟩, .string ⟨g.lot.toArray⟩, .string ⟨g.inst.toArray⟩, .int .i64 g.acq, .int .i64 g.closed, .string ⟨g.q.toArray⟩, .string ⟨g.proceeds.toArray⟩, .string ⟨g.cost.toArray⟩, .string ⟨g.deferred.toArray⟩, .string ⟨g.replaced.toArray⟩]
theorem gainC_eq (g : Gain) : (gainC g).toList = [g].flatMap G10 := rfl
theorem own_geG {W : World} {base g : Nat} {u : Value} {xs : List Gain} (h : Own G10 10 57 W base u xs) (hg : u.ownBlock = some g) : base ≤ g ∧ g < W.heap.size := by
  obtain ⟨A, c, rfl, _, _, _, h5⟩ := h.form
  exact (h5 g hg).2
set_option maxRecDepth 100000 in
set_option maxHeartbeats 8000000 in
theorem gains_any (v : PlV) (x : Plan) (old : List Lot) (pn pm pf pp n₀ : Nat) (w : World) (hp : Env w) (hM : PlM w n₀ v x old pn pm pf pp) (hn₀ : n₀ ≤ w.heap.size) (hz : (frOf x.part).Sz 20000) (hn : old.length ≤ 1000) :
    Calls Tryz.prog 30 #[.agg (plA v).toArray] w (RetOwn G10 10 57 w.heap.size w (gainL v.m x old)) := by
  rw [plA_eq]
  have HB := Lib.hid (show BlkB (w.alloc (.cells (plB v) 60)) w.heap.size (plB v) 60 from heap_alloc_new w _)
  have HBW := Lib.hid ((Below.refl w.heap.size w).alloc (Nat.le_refl _) (.cells (plB v) 60))
  have HSZ := Lib.hid (show (w.alloc (.cells (plB v) 60)).heap.size = w.heap.size + 1 by simp)
  have hp1 := Lib.hid (hp.here HBW.out)
  have HM := Lib.hid (hM.below (HBW.out.mono hn₀))
  have HSG := Lib.hid (mSign_any (frOf x.part) hz (w.alloc (.cells (plB v) 60)) hp1.out)
  rw [rat_frOf] at HSG
  have HSZ0 := Lib.hid (sign_zero x.part)
  have hnl : v.on ≤ 1000 := by rw [hM.len]; exact hn
  obtain ⟨N, hN⟩ : ∃ N, N = v.on := ⟨_, rfl⟩
  have HNN := Lib.hid hN
  have HLN := Lib.hid (show N = old.length by rw [hN]; exact hM.len)
  have E0 := Lib.hid (show (plB v)[0]? = some (.string ⟨v.m.cause.toArray⟩) from rfl)
  have E1 := Lib.hid (show (plB v)[1]? = some (.int .i64 v.m.day) from rfl)
  have E3 := Lib.hid (show (plB v)[3]? = some (.string ⟨v.m.other.toArray⟩) from rfl)
  have E11 := Lib.hid (show (plB v)[11]? = some (.slice v.oA N v.oc) by rw [hN]; rfl)
  have E13 := Lib.hid (show (plB v)[13]? = some (.string ⟨(frOf x.part).n.toArray⟩) by rw [← hM.part]; rfl)
  have E14 := Lib.hid (show (plB v)[14]? = some (.string ⟨(frOf x.part).d.toArray⟩) by rw [← hM.part]; rfl)
  have E17 := Lib.hid (show (plB v)[17]? = some (.slice (some ⟨pf, 0, none⟩) N N) by rw [hN, ← hM.ef]; rfl)
  have E18 := Lib.hid (show (plB v)[18]? = some (.slice (some ⟨pp, 0, none⟩) N N) by rw [hN, ← hM.ep]; rfl)
  have HPO := Lib.hid (show RetOwn G10 10 57 w.heap.size w (gainL v.m x old) = fun e w' => ∃ A c, e = .returned (.slice A (gainL v.m x old).length c) ∧ Own G10 10 57 w' w.heap.size (.slice A (gainL v.m x old).length c) (gainL v.m x old) ∧ Below w.heap.size w w' from rfl)
  have HGL := Lib.hid (show gainL v.m x old = if x.part = 0 then [] else gainTo v.m x old old.length from rfl)
  generalize RetOwn G10 10 57 w.heap.size w (gainL v.m x old) = post at *
  generalize gainL v.m x old = gl at *
  generalize plB v = pb at *
  have hnl2 : N ≤ 1000 := by rw [hN]; exact hnl
  generalize hoA : v.oA = oA at *
  generalize v.oc = oc at *
  have HOA := Lib.hid hoA
  have HNW := Lib.hid hn₀
  have c11 := HB.out.cell 11 E11.out
  have c13 := HB.out.cell 13 E13.out
  have c14 := HB.out.cell 14 E14.out
  generalize frOf x.part = fpt at *
  generalize cmpR x.part 0 = sg at *
  clear hp hM hz hn hn₀ hN hnl hoA
  unfold FrV S at HSG
  go_enter Tryz.func30, Tryz.ntmps30
  go_wp2_with fail
  generalize w.alloc (.cells pb 60) = W1 at *
  refine HSG.out.mono ?_
  rintro e w1 ⟨rfl, hb⟩
  by_cases h0 : x.part = 0
  · have hs0 : (sg == 0) = true := by rw [HSZ0.out]; simp [h0]
    rw [if_pos h0] at HGL
    clear h0
    go_wp2_with fail
    first | go_ret | skip
    rw [HPO.out, HGL.out]
    exact ⟨none, 0, rfl, Own.nil, HBW.out.trans (hb.mono HBW.out.size)⟩
  · have hs0 : (sg == 0) = false := by rw [HSZ0.out]; simp [h0]
    rw [if_neg h0] at HGL
    clear h0
    have HB1 := Lib.hid hb
    have HBB := Lib.hid (HB.out.here hb)
    clear hb c11 c13 c14
    have c11 := HBB.out.cell 11 E11.out
    go_wp2_with fail
    go_loopw [3, 4, 5, 13] (fun s _ _ j wr => ∃ (k : Nat) (A1 : Option Addr) (c1 : Nat), k ≤ N ∧ j = .int .i64 k ∧ s = .slice A1 (gainTo v.m x old k).length c1 ∧ Hid (Own G10 10 57 wr W1.heap.size (.slice A1 (gainTo v.m x old k).length c1) (gainTo v.m x old k)) ∧ Hid (Below W1.heap.size W1 wr)) (fun _ _ _ j _ => N - (intOf j).toNat)
    case atStart => exact ⟨0, none, 0, Nat.zero_le _, rfl, rfl, Own.nil, HB1.out⟩
    case round =>
      clear c11
      obtain ⟨k, A1, c1, hk, rfl, rfl, HOW, HBR⟩ := hrel
      have HBX := Lib.hid (show BlkB wr w.heap.size pb 60 from (HBR.out.block _ HB.out.lt).trans HB.out)
      have hnw : n₀ ≤ W1.heap.size := by have := HNW.out; have := HSZ.out; omega
      by_cases hlt : k < N
      · have hLT : Lots wr n₀ oA N old := by rw [HNN.out, ← HOA.out]; exact (HM.out.below (HBR.out.mono hnw)).lots
        obtain ⟨b, off, y, hAe, hb, hy, d0, d1, d2, d3, d4, d5, d6⟩ := hLT.lot7 hlt
        subst hAe
        have HGS := Lib.hid (gainTo_succ v.m x old k)
        rw [hy] at HGS
        have HGK := Lib.hid (gainTo_len v.m x old k)
        clear hy hLT
        have c17 := HBX.out.cell 17 E17.out
        have c18 := HBX.out.cell 18 E18.out
        have HPM := Lib.hid (show ∀ X, Below W1.heap.size W1 X → X.cell? ⟨pp, k, none⟩ = some (.string ⟨(txtL (x.p.getD k 0)).toArray⟩) ∧ X.cell? ⟨pf, k, none⟩ = some (.string ⟨(txtL (x.f.getD k 0)).toArray⟩) from fun X hX =>
          ⟨(HM.out.below (hX.mono hnw)).bp.cell k (by rw [← HNN.out, partA_get _ _ _ _ hlt, if_pos hlt]), (HM.out.below (hX.mono hnw)).bf.cell k (by rw [← HNN.out, partA_get _ _ _ _ hlt, if_pos hlt])⟩)
        have hpl : pp < W1.heap.size ∧ pf < W1.heap.size := ⟨HM.out.bp.lt, HM.out.bf.lt⟩
        obtain ⟨ppk, pfk⟩ := HPM.out wr HBR.out
        have hwr := HBR.out.size
        have hwl : w.heap.size < wr.heap.size := HBX.out.lt
        have nb : w.heap.size ≠ wr.heap.size := by omega
        have np : pp ≠ wr.heap.size := by omega
        have nf : pf ≠ wr.heap.size := by omega
        have lp : pp < wr.heap.size := by omega
        have lf : pf < wr.heap.size := by omega
        have i1 : (0 : Int) ≤ (k : Int) := by omega
        have i2 : (k : Int) < (N : Int) := by omega
        have HA1 := Lib.hid (HBR.out.alloc HBR.out.size (.cells #[.string ⟨y.id.toArray⟩, .string ⟨y.inst.toArray⟩, .int .i64 y.acq, .int .i64 y.opn, .string ⟨y.q.toArray⟩, .string ⟨y.c.toArray⟩, .string ⟨y.u.toArray⟩] 54))
        have HO1 := Lib.hid (HOW.out.alloc (.cells #[.string ⟨y.id.toArray⟩, .string ⟨y.inst.toArray⟩, .int .i64 y.acq, .int .i64 y.opn, .string ⟨y.q.toArray⟩, .string ⟨y.c.toArray⟩, .string ⟨y.u.toArray⟩] 54))
        have HYB := Lib.hid (heap_alloc_new wr (.cells #[.string ⟨y.id.toArray⟩, .string ⟨y.inst.toArray⟩, .int .i64 y.acq, .int .i64 y.opn, .string ⟨y.q.toArray⟩, .string ⟨y.c.toArray⟩, .string ⟨y.u.toArray⟩] 54))
        clear hwr hpl
        by_cases hno : x.p.getD k 0 = 0 ∧ x.f.getD k 0 = 0
        · have HG2 := Lib.hid (show gainTo v.m x old (k + 1) = gainTo v.m x old k by rw [HGS.out]; simp only [if_pos hno, List.append_nil])
          have hp1 : (txtL (x.p.getD k 0) == []) = true := by rw [emp_beq]; exact decide_eq_true hno.1
          have hp2 : (txtL (x.p.getD k 0)).isEmpty = true := by rw [emp_is]; exact hp1
          have hf1 : (txtL (x.f.getD k 0) == []) = true := by rw [emp_beq]; exact decide_eq_true hno.2
          have hf2 : (txtL (x.f.getD k 0)).isEmpty = true := by rw [emp_is]; exact hf1
          generalize txtL (x.p.getD k 0) = tp at *
          generalize txtL (x.f.getD k 0) = tf at *
          clear hno
          go_wp2
          go_roundw
          case rel => exact ⟨k + 1, A1, c1, by omega, by go_num, by rw [HG2.out], (show Own _ _ _ _ _ _ _ by rw [HG2.out]; exact HO1.out), HA1⟩
          case measure => simp [intOf]; omega
        · obtain ⟨g, hg⟩ : ∃ g : Gain, g = { cause := v.m.cause, lot := y.id, inst := v.m.other, acq := y.acq, closed := v.m.day, q := [], proceeds := txtL (x.p.getD k 0), cost := txtL (x.f.getD k 0), deferred := [], replaced := [] } := ⟨_, rfl⟩
          have HG2 := Lib.hid (show gainTo v.m x old (k + 1) = gainTo v.m x old k ++ [g] by rw [HGS.out, hg]; simp only [if_neg hno])
          have HGC := Lib.hid (show gainC g = #[.string ⟨v.m.cause.toArray⟩, .string ⟨y.id.toArray⟩, .string ⟨v.m.other.toArray⟩, .int .i64 y.acq, .int .i64 v.m.day, .string ⟨#[]⟩, .string ⟨(txtL (x.p.getD k 0)).toArray⟩, .string ⟨(txtL (x.f.getD k 0)).toArray⟩, .string ⟨#[]⟩, .string ⟨#[]⟩] by rw [hg]; rfl)
          have HSS := Lib.hid (show ∀ X, Below W1.heap.size W1 X → BlkB X wr.heap.size #[.string ⟨y.id.toArray⟩, .string ⟨y.inst.toArray⟩, .int .i64 y.acq, .int .i64 y.opn, .string ⟨y.q.toArray⟩, .string ⟨y.c.toArray⟩, .string ⟨y.u.toArray⟩] 54 →
            X.cell? ⟨w.heap.size, 0, none⟩ = some (.string ⟨v.m.cause.toArray⟩) ∧ X.cell? ⟨w.heap.size, 1, none⟩ = some (.int .i64 v.m.day) ∧ X.cell? ⟨w.heap.size, 3, none⟩ = some (.string ⟨v.m.other.toArray⟩) ∧ X.cell? ⟨w.heap.size, 17, none⟩ = some (.slice (some ⟨pf, 0, none⟩) N N) ∧ X.cell? ⟨w.heap.size, 18, none⟩ = some (.slice (some ⟨pp, 0, none⟩) N N) ∧
            X.cell? ⟨pp, k, none⟩ = some (.string ⟨(txtL (x.p.getD k 0)).toArray⟩) ∧ X.cell? ⟨pf, k, none⟩ = some (.string ⟨(txtL (x.f.getD k 0)).toArray⟩) ∧ X.cell? ⟨wr.heap.size, 0, none⟩ = some (.string ⟨y.id.toArray⟩) ∧ X.cell? ⟨wr.heap.size, 2, none⟩ = some (.int .i64 y.acq) from fun X hX hq =>
              ⟨BlkB.cell ((hX.block _ HB.out.lt).trans HB.out) 0 E0.out, BlkB.cell ((hX.block _ HB.out.lt).trans HB.out) 1 E1.out, BlkB.cell ((hX.block _ HB.out.lt).trans HB.out) 3 E3.out, BlkB.cell ((hX.block _ HB.out.lt).trans HB.out) 17 E17.out, BlkB.cell ((hX.block _ HB.out.lt).trans HB.out) 18 E18.out, (HPM.out X hX).1, (HPM.out X hX).2, hq.cell 0 rfl, hq.cell 2 rfl⟩)
          have hcase : (txtL (x.p.getD k 0) == []) = false ∨ ((txtL (x.p.getD k 0) == []) = true ∧ (txtL (x.f.getD k 0) == []) = false) := by
            rw [emp_beq, emp_beq]
            by_cases h1 : x.p.getD k 0 = 0
            · exact .inr ⟨decide_eq_true h1, decide_eq_false (fun h2 => hno ⟨h1, h2⟩)⟩
            · exact .inl (decide_eq_false h1)
          have HL := Lib.hid (show (gainTo v.m x old k).length ≤ 1000 by have := HGK.out; omega)
          generalize gainTo v.m x old k = gk at *
          generalize txtL (x.p.getD k 0) = tp at *
          generalize txtL (x.f.getD k 0) = tf at *
          clear hno hg HGS HGK HPM
          have HNB := Lib.hid nb
          have HO0 := Lib.hid HOW.out
          have HO1' : Own G10 10 57 wr W1.heap.size (.slice A1 gk.length c1) gk := HOW.out
          have HX1 := Lib.hid HO1'
          clear HO1' HO0
          rcases hcase with hp1 | ⟨hp1, hf1⟩
          all_goals
            first
              | have hp2 : tp.isEmpty = false := by rw [emp_is]; exact hp1
              | (have hp2 : tp.isEmpty = true := by rw [emp_is]; exact hp1
                 have hf2 : tf.isEmpty = false := by rw [emp_is]; exact hf1)
            go_wp2
            generalize wr.alloc (.cells #[.string ⟨y.id.toArray⟩, .string ⟨y.inst.toArray⟩, .int .i64 y.acq, .int .i64 y.opn, .string ⟨y.q.toArray⟩, .string ⟨y.c.toArray⟩, .string ⟨y.u.toArray⟩] 54) = Wy at *
            have hq1 : BlkB Wy.drew wr.heap.size #[.string ⟨y.id.toArray⟩, .string ⟨y.inst.toArray⟩, .int .i64 y.acq, .int .i64 y.opn, .string ⟨y.q.toArray⟩, .string ⟨y.c.toArray⟩, .string ⟨y.u.toArray⟩] 54 := HYB.out
            have hb1 : Below W1.heap.size W1 Wy.drew := HA1.out.drew
            have hq2 : BlkB (Wy.alloc (.cells #[.string ⟨v.m.cause.toArray⟩, .string ⟨y.id.toArray⟩, .string ⟨v.m.other.toArray⟩, .int .i64 y.acq, .int .i64 v.m.day, .string ⟨#[]⟩, .string ⟨tp.toArray⟩, .string ⟨tf.toArray⟩, .string ⟨#[]⟩, .string ⟨#[]⟩] 57)).drew wr.heap.size #[.string ⟨y.id.toArray⟩, .string ⟨y.inst.toArray⟩, .int .i64 y.acq, .int .i64 y.opn, .string ⟨y.q.toArray⟩, .string ⟨y.c.toArray⟩, .string ⟨y.u.toArray⟩] 54 := BlkB.alloc HYB.out _
            have hb2 : Below W1.heap.size W1 (Wy.alloc (.cells #[.string ⟨v.m.cause.toArray⟩, .string ⟨y.id.toArray⟩, .string ⟨v.m.other.toArray⟩, .int .i64 y.acq, .int .i64 v.m.day, .string ⟨#[]⟩, .string ⟨tp.toArray⟩, .string ⟨tf.toArray⟩, .string ⟨#[]⟩, .string ⟨#[]⟩] 57)).drew := (HA1.out.alloc HA1.out.size _).drew
            have hown2 : Own G10 10 57 (Wy.alloc (.cells #[.string ⟨v.m.cause.toArray⟩, .string ⟨y.id.toArray⟩, .string ⟨v.m.other.toArray⟩, .int .i64 y.acq, .int .i64 v.m.day, .string ⟨#[]⟩, .string ⟨tp.toArray⟩, .string ⟨tf.toArray⟩, .string ⟨#[]⟩, .string ⟨#[]⟩] 57)).drew W1.heap.size (.slice A1 gk.length c1) gk := (HO1.out.alloc _).drew
            have hsl2 : Gns (Wy.alloc (.cells #[.string ⟨v.m.cause.toArray⟩, .string ⟨y.id.toArray⟩, .string ⟨v.m.other.toArray⟩, .int .i64 y.acq, .int .i64 v.m.day, .string ⟨#[]⟩, .string ⟨tp.toArray⟩, .string ⟨tf.toArray⟩, .string ⟨#[]⟩, .string ⟨#[]⟩] 57)).drew (Wy.heap.size + 1) (some ⟨Wy.heap.size, 0, none⟩) 1 [g] := by
              have h := (Sl.lit (enc := G10) (k := 10) Wy (gainC g) 57 [g] (gainC_eq g) G10_len).drew
              rw [HGC.out] at h
              exact h
            have HQ1 := Lib.hid hq1; have HB1' := Lib.hid hb1; have HQ2 := Lib.hid hq2; have HB2 := Lib.hid hb2; have HW2 := Lib.hid hown2; have HS2 := Lib.hid hsl2
            clear hq1 hb1 hq2 hb2 hown2 hsl2
            have hgl : gk.length + 1 ≤ 100000000000 := by have := HL.out; omega
            have HGE := Lib.hid hgl
            clear hgl c17 c18 ppk pfk
            go_region_held3 (fun X => X.cell? ⟨w.heap.size, 0, none⟩ = some (.string ⟨v.m.cause.toArray⟩) ∧ X.cell? ⟨w.heap.size, 1, none⟩ = some (.int .i64 v.m.day) ∧ X.cell? ⟨w.heap.size, 3, none⟩ = some (.string ⟨v.m.other.toArray⟩) ∧ X.cell? ⟨w.heap.size, 17, none⟩ = some (.slice (some ⟨pf, 0, none⟩) N N) ∧ X.cell? ⟨w.heap.size, 18, none⟩ = some (.slice (some ⟨pp, 0, none⟩) N N) ∧ X.cell? ⟨pp, k, none⟩ = some (.string ⟨tp.toArray⟩) ∧ X.cell? ⟨pf, k, none⟩ = some (.string ⟨tf.toArray⟩) ∧ X.cell? ⟨wr.heap.size, 0, none⟩ = some (.string ⟨y.id.toArray⟩) ∧ X.cell? ⟨wr.heap.size, 2, none⟩ = some (.int .i64 y.acq))
              (first
                | with_reducible exact k2
                | with_reducible exact HSS.out _ HB1'.out HQ1.out
                | with_reducible exact HSS.out _ HB2.out HQ2.out
                | go_keep)
              ((refine step_app _ (by rfl) (.tmp 32) (.tmp 57) _ (by rfl) elemGains G10_len G10_cell (.slice A1 gk.length c1) gk (by rfl) HW2.out _ _ 1 1 [g] (by rfl) HS2.out HGE.out HB2.out.size ?_
                intro A2 c2 w2 ho2 hg2 _
                have hb3 := below_grown HB2.out hg2 HB2.out.size (fun g hg => (own_geG HW2.out hg).1)
                have hq3 : BlkB w2 wr.heap.size #[.string ⟨y.id.toArray⟩, .string ⟨y.inst.toArray⟩, .int .i64 y.acq, .int .i64 y.opn, .string ⟨y.q.toArray⟩, .string ⟨y.c.toArray⟩, .string ⟨y.u.toArray⟩] 54 := (hg2.block _ HQ2.out.lt (fun e => by
                  have := (own_geG HX1.out e.symm).2
                  omega)).trans HQ2.out
                have k2 := HSS.out w2 hb3 hq3))
            all_goals
              go_wp2_with fail
              go_roundw
              case rel =>
                have hl : (gainTo v.m x old (k + 1)).length = gk.length + 1 := by rw [HG2.out]; simp
                exact ⟨k + 1, A2, c2, by omega, by go_num, by rw [hl], (show Own _ _ _ _ _ _ _ by rw [hl, HG2.out]; exact ho2), hb3⟩
              case measure => simp [intOf]; omega
      · obtain rfl : k = N := by omega
        go_wp2_with fail
        first | go_ret | skip
        rw [HPO.out, HGL.out, ← HLN.out]
        exact ⟨A1, c1, rfl, HOW.out.base_ HBW.out.size, HBW.out.trans (HBR.out.mono HBW.out.size)⟩
end Go.Proofs.YtpnncoinlopndaaGreatDoor

namespace Go.Proofs.YtpnncoinlopndaaGreatDoor
open Go.RowKit Go.Shelf
attribute [local go_sem ↓] Go.wp_at_zero Go.wp_at_succ
set_option maxRecDepth 20000 in
set_option maxHeartbeats 2000000 in
theorem valid_any (A : Option Addr) (n c : Nat) (ls : List Lot) (m : Mp) (w : World) (hp : Env w) (hs : Lots w w.heap.size A n ls) (hl : ∀ x ∈ ls, x.Sz 50000) (hm : m.Sz 5000 ∨ m.Bad) (hn : n ≤ 1000000000) :
    Calls Tryz.prog 24 #[.slice A n c, MpV m] w fun e w' => e = .returned (.bool (decide (allC ls = 0) && decide (mpC m = 0))) ∧ Below w.heap.size w w' := by
  have H := Lib.hid ((Kp.start hp).new w.heap.size rfl #[.string ⟨m.cause.toArray⟩, .int .i64 m.day, .string ⟨m.inst.toArray⟩, .string ⟨m.other.toArray⟩, .string ⟨m.ratio.n.toArray⟩, .string ⟨m.ratio.d.toArray⟩, .string ⟨m.share.n.toArray⟩, .string ⟨m.share.d.toArray⟩, .string ⟨m.price.n.toArray⟩, .string ⟨m.price.d.toArray⟩, .bool m.keep] 28)
  have HCA := Lib.hid (fun W (hb : Below w.heap.size w W) => checkAll_any A n c ls W (hp.here hb) (hs.here hb) hl hn)
  have HMC := Lib.hid (fun W (hb : Below w.heap.size w W) => mCheck_all m hm W (hp.here hb))
  clear hp hs hl hn hm
  generalize allC ls = za at *
  generalize mpC m = zm at *
  unfold MpV mpA at *
  unfold S at *
  by_cases ha : za = 0
  · have ha0 : (za == 0) = true := by simp [ha]
    have hd : decide (za = 0) = true := by simp [ha]
    rw [hd]
    go_enter Tryz.func24, Tryz.ntmps24
    go_wp2_with fail
    generalize w.alloc (.cells #[.string ⟨m.cause.toArray⟩, .int .i64 m.day, .string ⟨m.inst.toArray⟩, .string ⟨m.other.toArray⟩, .string ⟨m.ratio.n.toArray⟩, .string ⟨m.ratio.d.toArray⟩, .string ⟨m.share.n.toArray⟩, .string ⟨m.share.d.toArray⟩, .string ⟨m.price.n.toArray⟩, .string ⟨m.price.d.toArray⟩, .bool m.keep] 28) = W at *
    refine (HCA.out _ H.out.bl).mono ?_
    rintro e w1 ⟨rfl, hb⟩
    have H1 := Lib.hid (H.out.here hb)
    clear H hb
    have c0 := H1.out.c 0 0 rfl rfl; have c1 := H1.out.c 0 1 rfl rfl; have c2 := H1.out.c 0 2 rfl rfl; have c3 := H1.out.c 0 3 rfl rfl; have c4 := H1.out.c 0 4 rfl rfl; have c5 := H1.out.c 0 5 rfl rfl; have c6 := H1.out.c 0 6 rfl rfl; have c7 := H1.out.c 0 7 rfl rfl; have c8 := H1.out.c 0 8 rfl rfl; have c9 := H1.out.c 0 9 rfl rfl; have c10 := H1.out.c 0 10 rfl rfl
    go_wp2_with fail
    refine (HMC.out _ H1.out.bl).mono ?_
    rintro e w2 ⟨rfl, hb⟩
    have HZ := Lib.hid (show (zm == 0) = decide (zm = 0) from rfl)
    go_wp2_with fail
    go_ret
    exact ⟨by simp [HZ.out], (H1.out.here hb).bl⟩
  · have ha0 : (za == 0) = false := by simp [ha]
    have hd : decide (za = 0) = false := by simp [ha]
    rw [hd]
    go_enter Tryz.func24, Tryz.ntmps24
    go_wp2_with fail
    generalize w.alloc (.cells #[.string ⟨m.cause.toArray⟩, .int .i64 m.day, .string ⟨m.inst.toArray⟩, .string ⟨m.other.toArray⟩, .string ⟨m.ratio.n.toArray⟩, .string ⟨m.ratio.d.toArray⟩, .string ⟨m.share.n.toArray⟩, .string ⟨m.share.d.toArray⟩, .string ⟨m.price.n.toArray⟩, .string ⟨m.price.d.toArray⟩, .bool m.keep] 28) = W at *
    refine (HCA.out _ H.out.bl).mono ?_
    rintro e w1 ⟨rfl, hb⟩
    go_wp2_with fail
    go_ret
    exact ⟨by simp, (H.out.here hb).bl⟩
end Go.Proofs.YtpnncoinlopndaaGreatDoor

namespace Go.Proofs.YtpnncoinlopndaaGreatDoor
open Go.RowKit Go.Shelf
set_option maxRecDepth 20000 in
set_option maxHeartbeats 1000000 in
theorem indexLo_any (g : Nat) (cb : Array Value) (p : Lot → Bool) (A : Option Addr) (n c : Nat) (xs : List Lot) (w : World) (eg : ∀ args w, (callFunc g args).run Tryz.prog w = .ok (.enter g args) w)
    (hp : ∀ (W : World) (x : Lot), x ∈ xs → Below w.heap.size w W → Calls Tryz.prog g (#[LotV x] ++ cb) W fun e w' => e = .returned (.bool (p x)) ∧ Below W.heap.size W w') (hr : Sl L7 7 w w.heap.size A n xs) (hn : n ≤ 1000000000) :
    Calls Tryz.prog 80 #[.slice A n c, .func (.func g) #[] cb] w fun e w' => e = .returned (.int .i64 (idxG p xs)) ∧ Below w.heap.size w w' := by
  have HPR := Lib.hid hp; have HR := Lib.hid hr
  clear hp hr
  go_enter Tryz.func80, Tryz.ntmps80
  go_wp2
  go_loopw [5, 8] (fun _ i wr => ∃ j : Nat, j ≤ n ∧ i = .int .i64 j ∧ Hid ((xs.take j).any p = false) ∧ Below w.heap.size w wr) (fun _ i _ => n - (intOf i).toNat)
  case atStart => exact ⟨0, Nat.zero_le _, rfl, by show _ = _; simp, Below.refl _ _⟩
  case round =>
    obtain ⟨j, hj, rfl, HN, hb⟩ := hrel
    by_cases hlt : j < n
    · obtain ⟨b, off, r, rfl, hbl, hxj, hd⟩ := (HR.out.below hb).at_ hlt
      have d0 : wr.cell? ⟨b, off + j * 7, none⟩ = some (.string ⟨r.id.toArray⟩) := hd 0 _ rfl
      have d1 : wr.cell? ⟨b, off + j * 7 + 1, none⟩ = some (.string ⟨r.inst.toArray⟩) := hd 1 _ rfl
      have d2 : wr.cell? ⟨b, off + j * 7 + 2, none⟩ = some (.int .i64 r.acq) := hd 2 _ rfl
      have d3 : wr.cell? ⟨b, off + j * 7 + 3, none⟩ = some (.int .i64 r.opn) := hd 3 _ rfl
      have d4 : wr.cell? ⟨b, off + j * 7 + 4, none⟩ = some (.string ⟨r.q.toArray⟩) := hd 4 _ rfl
      have d5 : wr.cell? ⟨b, off + j * 7 + 5, none⟩ = some (.string ⟨r.c.toArray⟩) := hd 5 _ rfl
      have d6 : wr.cell? ⟨b, off + j * 7 + 6, none⟩ = some (.string ⟨r.u.toArray⟩) := hd 6 _ rfl
      have HX := Lib.hid hxj
      have hcall := HPR.out wr r (List.mem_of_getElem? hxj) hb
      unfold LotV S at hcall
      clear hxj hd
      have HC := Lib.hid hcall; clear hcall
      cases hq : p r with
      | true =>
        rw [hq] at HC
        have HQ := Lib.hid hq; clear hq
        go_wp2_with (go_at_fn g; refine (HC.out).mono ?_; rintro e w' ⟨rfl, hb'⟩)
        go_ret
        exact ⟨ret_int (idxG_hit HX.out HQ.out HN.out).symm, hb.trans (hb'.mono hb.size)⟩
      | false =>
        rw [hq] at HC
        have HQ := Lib.hid hq; clear hq
        go_wp2_with (go_at_fn g; refine (HC.out).mono ?_; rintro e w' ⟨rfl, hb'⟩)
        go_roundw
        case rel => exact ⟨j + 1, by omega, by go_num, anyG_step HX.out HN.out HQ.out, hb.trans (hb'.mono hb.size)⟩
        case measure => simp [intOf]; omega
    · go_wp2
      go_ret
      exact ⟨ret_int (idxG_miss (by have := HN.out; rwa [List.take_of_length_le (by have := HR.out.1; omega)] at this)).symm, hb⟩
end Go.Proofs.YtpnncoinlopndaaGreatDoor

namespace Go.Proofs.YtpnncoinlopndaaGreatDoor
open Go.RowKit Go.Shelf
set_option maxRecDepth 20000 in
theorem find1_any (x : Lot) (id : List UInt8) (B : Nat) (W : World) (hB : W.cell? ⟨B, 0, none⟩ = some (.string ⟨id.toArray⟩)) : Calls Tryz.prog 81 (#[LotV x] ++ #[.pointer (some ⟨B, 0, none⟩)]) W fun e w' => e = .returned (.bool (x.id == id)) ∧ Below W.heap.size W w' := by
  have hb := (Below.refl W.heap.size W).alloc (Nat.le_refl _) (.cells #[.string ⟨x.id.toArray⟩, .string ⟨x.inst.toArray⟩, .int .i64 x.acq, .int .i64 x.opn, .string ⟨x.q.toArray⟩, .string ⟨x.c.toArray⟩, .string ⟨x.u.toArray⟩] 54)
  have hlt := World.block_lt_of_cell? W _ hB
  have HB := Lib.hid hb
  have c1 := (hb.cell (p := ⟨B, 0, none⟩) hlt).trans hB
  have hn := heap_alloc_new W (.cells #[.string ⟨x.id.toArray⟩, .string ⟨x.inst.toArray⟩, .int .i64 x.acq, .int .i64 x.opn, .string ⟨x.q.toArray⟩, .string ⟨x.c.toArray⟩, .string ⟨x.u.toArray⟩] 54)
  have c0 := cell_of_row _ _ 0 _ _ _ hn
  simp only [List.getElem?_toArray, List.getElem?_cons_zero] at c0
  clear hb hn hB hlt
  unfold LotV S
  show Calls _ _ #[.agg #[.string ⟨x.id.toArray⟩, .string ⟨x.inst.toArray⟩, .int .i64 x.acq, .int .i64 x.opn, .string ⟨x.q.toArray⟩, .string ⟨x.c.toArray⟩, .string ⟨x.u.toArray⟩], .pointer (some ⟨B, 0, none⟩)] _ _
  go_enter Tryz.func81, Tryz.ntmps81
  go_wp2_with fail
  first | go_ret | skip
  exact ⟨rfl, HB.out⟩
def fndI (ls : List Lot) (id : List UInt8) : Int := idxG (fun x : Lot => x.id == id) ls
set_option maxRecDepth 20000 in
set_option maxHeartbeats 1000000 in
theorem find_any (A : Option Addr) (n c : Nat) (ls : List Lot) (id : List UInt8) (w : World) (hs : Lots w w.heap.size A n ls) (hn : n ≤ 1000000000) :
    Calls Tryz.prog 28 #[.slice A n c, S id] w fun e w' => e = .returned (.tuple #[.int .i64 (max (fndI ls id) 0), .bool (decide (0 ≤ fndI ls id))]) ∧ Below w.heap.size w w' := by
  have hbA := (Below.refl w.heap.size w).alloc (Nat.le_refl _) (.cells #[.string ⟨id.toArray⟩] 9)
  have hn1 := heap_alloc_new w (.cells #[.string ⟨id.toArray⟩] 9)
  have c0 : (w.alloc (.cells #[.string ⟨id.toArray⟩] 9)).cell? ⟨w.heap.size, 0, none⟩ = some (.string ⟨id.toArray⟩) := cell_of_row _ _ 0 _ _ _ hn1
  have hlt := World.block_lt_of_cell? _ _ c0
  have HI := Lib.hid (indexLo_any 81 #[.pointer (some ⟨w.heap.size, 0, none⟩)] (fun x : Lot => x.id == id) A n c ls (w.alloc (.cells #[.string ⟨id.toArray⟩] 9)) (enters_of Tryz.func81 (by kernel_rfl) rfl)
    (fun W' x _ hb' => find1_any x id w.heap.size W' ((hb'.cell (p := ⟨w.heap.size, 0, none⟩) hlt).trans c0)) (hs.here hbA) hn)
  have HFI := Lib.hid (show fndI ls id = idxG (fun x : Lot => x.id == id) ls from rfl)
  rw [← HFI.out] at HI
  clear HFI
  generalize fndI ls id = z at *
  have HB := Lib.hid hbA
  clear hbA hn1 c0 hlt hs
  unfold S
  go_enter Tryz.func28, Tryz.ntmps28
  go_wp2_with fail
  refine HI.out.mono ?_
  rintro e w1 ⟨rfl, hb⟩
  go_wp2_with fail
  first | go_ret2 | skip
  exact ⟨rfl, HB.out.trans (hb.mono (by simp))⟩
end Go.Proofs.YtpnncoinlopndaaGreatDoor

