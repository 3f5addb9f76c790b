/- The walk of the law LotmapSteps. -/
import Derived.Test.YtbnfgbcgpbdpcaaGreatDoorQGSt26
import Derived.Test.YtbnfgbcgpbdpcaaGreatDoorQGSt21
import Derived.Test.YtbnfgbcgpbdpcaaGreatDoorQGSt27
import Derived.Test.YtbnfgbcgpbdpcaaGreatDoorQGSt3
import Derived.Deep.RegionHeld3
import Derived.Deep.DrawnRows
import Derived.Deep.DeepCutAuto
namespace Go.Proofs.YtbnfgbcgpbdpcaaGreatDoor
open Go.RowKit Go.Shelf
attribute [local go_sem ↓] Go.wp_at_zero Go.wp_at_succ

theorem Sl.stepB {w : World} {B : Nat} {A : Option Addr} {n : Nat} {xs : List Stp} {i : Nat} (h : Sts w B A n xs) (hi : i < n) :
    ∃ b off x, A = some ⟨b, off, none⟩ ∧ b < B ∧ xs[i]? = some x ∧ w.cell? ⟨b, off + i * 6, none⟩ = some (.string ⟨x.cause.toArray⟩) ∧ w.cell? ⟨b, off + i * 6 + 1, none⟩ = some (.string ⟨x.src.toArray⟩) ∧ w.cell? ⟨b, off + i * 6 + 2, none⟩ = some (.string ⟨x.dst.toArray⟩) ∧
      w.cell? ⟨b, off + i * 6 + 3, none⟩ = some (.string ⟨x.q.toArray⟩) ∧ w.cell? ⟨b, off + i * 6 + 4, none⟩ = some (.string ⟨x.made.toArray⟩) ∧ w.cell? ⟨b, off + i * 6 + 5, none⟩ = some (.string ⟨x.cost.toArray⟩) := h.step hi
set_option maxRecDepth 100000 in
set_option maxHeartbeats 8000000 in
theorem steps_walk (A : Option Addr) (n c : Nat) (ls : List Lot) (m : Mp) (w : World) (hp : Env w) (hs : Lots w w.heap.size A n ls) (hnil : (A = none ∧ c = 0) ∨ ∃ a, A = some a) (hn : n ≤ 9223372036854775807) (hi : ∀ y ∈ ls, y.I)
    (hm : m.Max) (hd : -9223372036854775808 ≤ m.day ∧ m.day ≤ 9223372036854775807) :
    Calls Tryz.prog 3 #[.slice A n c, MpV m] w fun e w' => e = .returned (.bool true) ∧ Below w.heap.size w w' := by
  have HGR := Lib.hid (fun W (hb : Below w.heap.size w W) => lwGreat_any A n c ls m W (hs.here hb) hn hm)
  have HAW := Lib.hid (fun W (hb : Below w.heap.size w W) => lwAwake_any W (hp.here hb))
  have HK0 := Lib.hid (show Kp w [(w.heap.size, #[.string ⟨m.cause.toArray⟩, .int .i64 m.day, .string ⟨m.inst.toArray⟩, .string ⟨m.other.toArray⟩, .string ⟨m.ratio.n.toArray⟩, .string ⟨m.ratio.d.toArray⟩, .string ⟨m.share.n.toArray⟩, .string ⟨m.share.d.toArray⟩, .string ⟨m.price.n.toArray⟩, .string ⟨m.price.d.toArray⟩, .bool m.keep], 28)] (w.alloc (.cells #[.string ⟨m.cause.toArray⟩, .int .i64 m.day, .string ⟨m.inst.toArray⟩, .string ⟨m.other.toArray⟩, .string ⟨m.ratio.n.toArray⟩, .string ⟨m.ratio.d.toArray⟩, .string ⟨m.share.n.toArray⟩, .string ⟨m.share.d.toArray⟩, .string ⟨m.price.n.toArray⟩, .string ⟨m.price.d.toArray⟩, .bool m.keep] 28)) from (Kp.start hp).new w.heap.size rfl _ _)
  obtain ⟨z0, z1, z2, z3, z4, z5, z6, z7, z8, z9, z10⟩ := mp11 HK0.out (m := m) (i := 0) rfl
  cases hg : (grtL ls || longM m) with
  | true =>
    rw [hg] at HGR
    clear hp hs hnil hn hi hm hd hg
    unfold MpV at *
    rw [mpA_eq] at *
    go_enter Tryz.func3, Tryz.ntmps3
    go_wp2_with fail
    generalize w.alloc (.cells #[.string ⟨m.cause.toArray⟩, .int .i64 m.day, .string ⟨m.inst.toArray⟩, .string ⟨m.other.toArray⟩, .string ⟨m.ratio.n.toArray⟩, .string ⟨m.ratio.d.toArray⟩, .string ⟨m.share.n.toArray⟩, .string ⟨m.share.d.toArray⟩, .string ⟨m.price.n.toArray⟩, .string ⟨m.price.d.toArray⟩, .bool m.keep] 28) = W0 at *
    refine (HGR.out _ HK0.out.bl).mono ?_
    rintro e w1 ⟨rfl, hb1⟩
    have HK1 := Lib.hid (HK0.out.here hb1)
    clear z0 z1 z2 z3 z4 z5 z6 z7 z8 z9 z10 hb1
    go_wp2_with fail
    refine (HAW.out _ HK1.out.bl).mono ?_
    rintro e w2 ⟨rfl, hb2⟩
    go_wp2_with fail
    first | go_ret | skip
    exact ⟨rfl, (HK1.out.here hb2).bl⟩
  | false =>
    rw [hg] at HGR
    simp only [Bool.or_eq_false_iff] at hg
    obtain ⟨hn2, hsz⟩ := grtL_no hg.1 hi
    obtain ⟨hr, hsh, hpr, hmz⟩ := longM_no hg.2 hd.1 hd.2
    have hn1 : n ≤ 1002 := by rw [hs.1]; exact hn2
    have hmz5 : m.Sz 5000 ∨ m.Bad := hmz.imp (fun h => h.more (by omega)) id
    have hls5 : ∀ y ∈ ls, y.Sz 50000 := fun y hy => (hsz y hy).1.more (by omega)
    have hq13 : ∀ y ∈ ls, y.q.length ≤ 13 := fun y hy => (hsz y hy).2.1
    have hc13 : ∀ y ∈ ls, y.c.length ≤ 13 := fun y hy => (hsz y hy).2.2
    have HNU := Lib.hid (fun W (hb : Below w.heap.size w W) => numbers_any A n c ls m W 13 (hp.here hb) (hs.here hb) hnil (by omega) hls5 hmz5 (by decide) (by decide) hq13 hc13 (hr.more (by omega)) (hsh.more (by omega)) (hpr.more (by omega)))
    have HLEN := Lib.hid (mapL_len (m := m) (L := 13) (by decide) (by decide) (fun y hy => ⟨hq13 y hy, hc13 y hy⟩) hls5 (hr.more (by omega)) (hpr.more (by omega)))
    have HNO := Lib.hid (mapL_no (ls := ls) (m := m)); have HFR := Lib.hid (And.intro hr hpr)
    have HNL := Lib.hid (show numL ls m = if (mapL ls m).2 = 0 then (lotsOf ls m.inst, newOf ls (mapL ls m).1.lots, (mapL ls m).1, true) else ([], [], (mapL ls m).1, false) from rfl)
    have HP := Lib.hid hp; have HS := Lib.hid hs; have HN1 := Lib.hid hn1
    have HQC := Lib.hid (And.intro hq13 hc13)
    clear hp hs hnil hn hi hm hd hg hn2 hsz hr hsh hpr hn1 hmz hmz5 hls5 hq13 hc13
    unfold MpV at *
    rw [mpA_eq] at *
    go_enter Tryz.func3, Tryz.ntmps3
    go_wp2_with fail
    generalize w.alloc (.cells #[.string ⟨m.cause.toArray⟩, .int .i64 m.day, .string ⟨m.inst.toArray⟩, .string ⟨m.other.toArray⟩, .string ⟨m.ratio.n.toArray⟩, .string ⟨m.ratio.d.toArray⟩, .string ⟨m.share.n.toArray⟩, .string ⟨m.share.d.toArray⟩, .string ⟨m.price.n.toArray⟩, .string ⟨m.price.d.toArray⟩, .bool m.keep] 28) = W0 at *
    refine (HGR.out _ HK0.out.bl).mono ?_
    rintro e w1 ⟨rfl, hb1⟩
    have HK1 := Lib.hid (HK0.out.here hb1)
    clear z0 z1 z2 z3 z4 z5 z6 z7 z8 z9 z10 hb1 HGR HK0
    obtain ⟨z0, z1, z2, z3, z4, z5, z6, z7, z8, z9, z10⟩ := mp11 HK1.out (m := m) (i := 0) rfl
    go_wp2_with fail
    refine (HNU.out _ HK1.out.bl).mono ?_
    rintro e w2 ⟨Ao, co, Am, cm, A1, c1, Ag, cg, As, cs, rfl, oO, oM, oL, oG, oS, hb2⟩
    clear z0 z1 z2 z3 z4 z5 z6 z7 z8 z9 z10 HNU
    by_cases h0 : (mapL ls m).2 = 0
    · rw [HNL.out, if_pos h0] at oO oM oL oG oS ⊢
      have HOLD := Lib.hid (fun (y : Lot) (hy : y ∈ lotsOf ls m.inst) => steps_old h0 hy)
      have HNEW := Lib.hid (fun (z : Lot) (hz : z ∈ newOf ls (mapL ls m).1.lots) => steps_new h0 hz)
      have HCAU := Lib.hid (steps_cause (ls := ls) (m := m))
      have HCAN := Lib.hid (steps_can h0)
      have HSZ := Lib.hid (steps_len (ls := ls) (m := m) (L := 13) (by decide) (fun y hy => ⟨HQC.out.1 y hy, HQC.out.2 y hy⟩) (HFR.out.1.more (by omega)) (HFR.out.2.more (by omega)))
      obtain ⟨q1, _, _, q4, q5, q6⟩ := HLEN.out
      have HOL := Lib.hid (show (lotsOf ls m.inst).length ≤ 2000 by have := lotsOf_len ls m.inst; have := HN1.out; have := HS.out.1; omega)
      have HNL2 := Lib.hid (show (newOf ls (mapL ls m).1.lots).length ≤ 1000 from Nat.le_trans (List.length_filter_le _ _) q4)
      have HLQ := Lib.hid (show ∀ y ∈ (mapL ls m).1.lots, y.q.length ≤ 94 ∧ y.c.length ≤ 94 from fun y hy => ⟨(q1 y hy).1, (q1 y hy).2.1⟩)
      have HOQ := Lib.hid (show ∀ y ∈ lotsOf ls m.inst, y.q.length ≤ 13 ∧ y.c.length ≤ 13 from fun y hy => ⟨HQC.out.1 y (List.mem_filter.1 hy).1, HQC.out.2 y (List.mem_filter.1 hy).1⟩)
      have HL1 := Lib.hid q4; have HSL := Lib.hid q6
      dsimp only at oO oM oL oG oS ⊢
      clear HNO HNL HLEN h0 q1 q4 q5 q6 HQC
      generalize newOf ls (mapL ls m).1.lots = nw at *
      generalize lotsOf ls m.inst = old at *
      generalize (mapL ls m).1.lots = lots at *
      generalize (mapL ls m).1.gains = gains at *
      generalize (mapL ls m).1.steps = steps at *
      have HK2 := Lib.hid (HK1.out.here hb2)
      have HK3 := Lib.hid (HK2.out.new w2.heap.size rfl #[.slice A1 lots.length c1, .slice Ag gains.length cg, .slice As steps.length cs, .slice none 0 0] 35)
      have hB1 := HK1.out.bl.size
      have HOO := Lib.hid ((oO.base_ hB1).alloc (.cells #[.slice A1 lots.length c1, .slice Ag gains.length cg, .slice As steps.length cs, .slice none 0 0] 35)); have HOM := Lib.hid ((oM.base_ hB1).alloc (.cells #[.slice A1 lots.length c1, .slice Ag gains.length cg, .slice As steps.length cs, .slice none 0 0] 35))
      have HOLo := Lib.hid ((oL.base_ hB1).alloc (.cells #[.slice A1 lots.length c1, .slice Ag gains.length cg, .slice As steps.length cs, .slice none 0 0] 35)); have HOS := Lib.hid ((oS.base_ hB1).alloc (.cells #[.slice A1 lots.length c1, .slice Ag gains.length cg, .slice As steps.length cs, .slice none 0 0] 35))
      clear oO oM oL oG oS hb2 hB1
      go_upto_region 6 with (fail)
      generalize (w2.alloc (.cells #[.slice A1 lots.length c1, .slice Ag gains.length cg, .slice As steps.length cs, .slice none 0 0] 35)) = W3 at *
      go_wp2_with fail
      go_loopw [10, 11, 12, 13, 14, 16, 40] (fun _ _ _ _ _ _ j wr => ∃ k : Nat, k ≤ old.length ∧ j = .int .i64 k ∧ Hid (Below W3.heap.size W3 wr)) (fun _ _ _ _ _ _ j _ => old.length - (intOf j).toNat)
      case atStart => exact ⟨0, Nat.zero_le _, rfl, Below.refl _ _⟩
      case round =>
        obtain ⟨k, hk, rfl, HBR⟩ := hrel
        have HKR := Lib.hid (HK3.out.here HBR.out)
        by_cases hlt : k < old.length
        · obtain ⟨b, off, y, hAe, hb, hy, d0, d1, d2, d3, d4, d5, d6⟩ := ((HOO.out.below HBR.out).sl L7_len).lot7 hlt
          have HYO := HOLD.out y (List.mem_of_getElem? hy)
          obtain ⟨yc, yq⟩ := HCAN.out.1 y (List.mem_of_getElem? hy)
          have HYL := Lib.hid (HOQ.out y (List.mem_of_getElem? hy))
          have HYC := Lib.hid yc; have HYQ := Lib.hid yq
          obtain ⟨F1, f10, f1n, f1l, f1s⟩ := left_fun (xs := steps) (fun s => decide (s.src = y.id)) (·.cost) (fun s hs => (HSZ.out s hs).2.2) HSL.out
          obtain ⟨F2, f20, f2n, f2l, f2s⟩ := left_fun (xs := steps) (fun s => decide (s.src = y.id)) (·.q) (fun s hs => (HSZ.out s hs).1) HSL.out
          rw [← f10, ← f20] at HYO
          replace HYO := Lib.hid HYO
          have HF1 := Lib.hid (And.intro f1n (And.intro f1l f1s)); have HF2 := Lib.hid (And.intro f2n (And.intro f2l f2s))
          clear f10 f1n f1l f1s f20 f2n f2l f2s yc yq
          subst hAe
          clear hy
          have HFD := Lib.hid (fun W (h : Below W3.heap.size W3 W) => find_any A1 lots.length c1 lots y.id W ((HOLo.out.below h).sl L7_len) (by have := HL1.out; omega))
          obtain ⟨f, hf⟩ : ∃ f, f = fndI lots y.id := ⟨_, rfl⟩
          rw [← hf] at HFD HYO
          clear hf
          have HFI := Lib.hid (show 0 ≤ f → max f 0 = f from fun h => by omega)
          unfold S at HFD
          have HAB := Lib.hid (HBR.out.alloc HBR.out.size (.cells #[.string ⟨y.id.toArray⟩, .string ⟨y.inst.toArray⟩, .int .i64 y.acq, .int .i64 y.opn, .string ⟨y.q.toArray⟩, .string ⟨y.c.toArray⟩, .string ⟨y.u.toArray⟩] 39))
          have HA1 := Lib.hid (HKR.out.new wr.heap.size rfl #[.string ⟨y.id.toArray⟩, .string ⟨y.inst.toArray⟩, .int .i64 y.acq, .int .i64 y.opn, .string ⟨y.q.toArray⟩, .string ⟨y.c.toArray⟩, .string ⟨y.u.toArray⟩] 39)
          go_upto_region 9 with (fail)
          clear d0 d1 d2 d3 d4 d5 d6
          generalize (wr.alloc (.cells #[.string ⟨y.id.toArray⟩, .string ⟨y.inst.toArray⟩, .int .i64 y.acq, .int .i64 y.opn, .string ⟨y.q.toArray⟩, .string ⟨y.c.toArray⟩, .string ⟨y.u.toArray⟩] 39)) = Wy at *
          have y4 := HA1.out.c 0 4 rfl rfl; have y5 := HA1.out.c 0 5 rfl rfl
          go_cut [11, 12] (fun p q wc => p = .string ⟨y.c.toArray⟩ ∧ q = .string ⟨y.q.toArray⟩ ∧ Wy.drew = wc)
          case first =>
            go_region_held3 (fun X => X.cell? ⟨wr.heap.size, 4, none⟩ = some (.string ⟨y.q.toArray⟩) ∧ X.cell? ⟨wr.heap.size, 5, none⟩ = some (.string ⟨y.c.toArray⟩)) (go_keep) (fail)
            all_goals
              go_wp2_with fail
              go_meet
              exact ⟨rfl, rfl, rfl⟩
          case rest =>
          obtain ⟨rfl, rfl, rfl⟩ := hcut
          replace HA1 := Lib.hid HA1.out.drew
          replace HAB := Lib.hid HAB.out.drew
          clear y4 y5
          have r0 := HA1.out.c 1 0 rfl rfl; have y0 := HA1.out.c 0 0 rfl rfl
          go_upto_region 11 with
            (refine (HFD.out _ HAB.out).mono ?_; rintro e w5 ⟨rfl, hb5⟩
             have HK5 := Lib.hid (HA1.out.here hb5)
             have HB5 := Lib.hid (HAB.out.trans (hb5.mono HAB.out.size)))
          clear r0 y0 hb5 HA1 HAB
          have HFB := Lib.hid (show (f < 0 → decide (0 ≤ f) = false) ∧ (0 ≤ f → decide (0 ≤ f) = true) from ⟨fun h => by simpa using h, fun h => by simpa using h⟩)
          have HFL := Lib.hid (show 0 ≤ f → f < lots.length from fun h => by
            rcases HYO.out with ⟨h1, _⟩ | ⟨j, z, h1, h2, _⟩
            · omega
            · have := (List.getElem?_eq_some_iff.1 h2).1; omega)
          generalize max f 0 = fi at *
          generalize decide (0 ≤ f) = fb at *
          have r0 := HK5.out.c 1 0 rfl rfl
          go_cut [13, 14, 67] (fun a b c wc => a = .int .i64 fi ∧ b = .bool fb ∧ c = .bool fb ∧ w5 = wc)
          case first =>
            rcases Int.lt_or_le f 0 with h | h
            · rw [HFB.out.1 h]
              go_wp2_with fail
              go_meet
              exact ⟨rfl, by rw [HFB.out.1 h], by rw [HFB.out.1 h], rfl⟩
            · have hl := HFL.out h
              have hL := HL1.out
              rw [HFB.out.2 h, HFI.out h]
              go_wp2_with fail
              go_meet
              exact ⟨by rw [HFI.out h], by rw [HFB.out.2 h], by rw [HFB.out.2 h], rfl⟩
          case rest =>
          obtain ⟨rfl, rfl, rfl, rfl⟩ := hcut
          clear r0
          go_upto_if 67 with (fail)
          go_cut [11, 12, 13, 14] (fun p q a b wc => p = .string ⟨(txtL (F1 0)).toArray⟩ ∧ q = .string ⟨(txtL (F2 0)).toArray⟩ ∧ a = .int .i64 fi ∧ b = .bool fb ∧ ∃ X, X = wc ∧ Hid (Kp w5 [] X))
          case first =>
            rcases HYO.out with ⟨h, e1, e2⟩ | ⟨j, z, h, hz, e1, e2⟩
            · have HFE := Lib.hid (HFB.out.1 (by omega))
              rw [HFE.out]
              clear HFI HFL h
              go_wp2_with fail
              go_meet
              exact ⟨by rw [e1, ← HYC.out], by rw [e2, ← HYQ.out], rfl, by rw [HFE.out], _, rfl, Kp.start HK5.out.pw⟩
            · have HFF := Lib.hid (HFI.out (by omega))
              have HFE := Lib.hid (HFB.out.2 (by omega))
              have HFJ := Lib.hid (HFF.out.trans h)
              rw [HFE.out, HFJ.out]
              obtain ⟨b2, off2, z', hAl, hb2, hz', g0, g1, g2, g3, g4, g5, g6⟩ := ((HOLo.out.below HB5.out).sl L7_len).lot7 (i := j) (List.getElem?_eq_some_iff.1 hz).1
              obtain rfl : z' = z := Option.some.inj (hz'.symm.trans hz)
              have HZ := Lib.hid (HLQ.out z' (List.mem_of_getElem? hz))
              have i1 : (0 : Int) ≤ (j : Int) := by omega
              have i2 : (j : Int) < (lots.length : Int) := by have := (List.getElem?_eq_some_iff.1 hz).1; omega
              have HS1 := Lib.hid (fun W hp => Sub_any y.c z'.c W hp (by have := HYL.out.2; omega) (by have := HZ.out.2; omega))
              have HS2 := Lib.hid (fun W hp => Sub_any y.q z'.q W hp (by have := HYL.out.1; omega) (by have := HZ.out.1; omega))
              rw [← e1] at HS1
              rw [← e2] at HS2
              unfold StrPost S at HS1 HS2
              subst hAl
              have H0 := Lib.hid (Kp.start HK5.out.pw)
              have HR := Lib.hid (show ∀ X bs, Kp w5 bs X → X.cell? ⟨w2.heap.size, 0, none⟩ = some (.slice (some ⟨b2, off2, none⟩) lots.length c1) ∧ X.cell? ⟨b2, off2 + j * 7 + 5, none⟩ = some (.string ⟨z'.c.toArray⟩) ∧ X.cell? ⟨b2, off2 + j * 7 + 4, none⟩ = some (.string ⟨z'.q.toArray⟩) from fun X bs h =>
                ⟨(HK5.out.here h.bl).c 1 0 rfl rfl, (h.bl.cell (p := ⟨b2, off2 + j * 7 + 5, none⟩) hb2).trans g5, (h.bl.cell (p := ⟨b2, off2 + j * 7 + 4, none⟩) hb2).trans g4⟩)
              clear g0 g1 g2 g3 g4 g5 g6 hz hz' HFI HFF HFL HFB HYO e1 e2 h hb2 HYC HYQ
              generalize txtL (F1 0) = o1 at *
              generalize txtL (F2 0) = o2 at *
              generalize hpc : y.c = pc at *
              generalize hpq : y.q = pq at *
              clear hpc hpq
              go_upto_region 12 with (fail)
              obtain ⟨s00, s01, s02⟩ := HR.out _ _ H0.out
              have g0 := H0.out.drew
              have s0 := HR.out _ _ g0
              go_region_held3 (fun X => X.cell? ⟨w2.heap.size, 0, none⟩ = some (.slice (some ⟨b2, off2, none⟩) lots.length c1) ∧ X.cell? ⟨b2, off2 + j * 7 + 5, none⟩ = some (.string ⟨z'.c.toArray⟩) ∧ X.cell? ⟨b2, off2 + j * 7 + 4, none⟩ = some (.string ⟨z'.q.toArray⟩))
                (first
                  | with_reducible exact s2
                  | with_reducible exact s1
                  | with_reducible exact s0
                  | go_keep)
                (first
                  | (go_at_call_of 11 (Value.string ⟨pc.toArray⟩); first
                    | (refine (HS1.out _ g1.po).mono ?_; rintro e y2 ⟨rfl, hy⟩
                       have g2 := g1.here hy
                       have s2 := HR.out _ _ g2)
                    | (refine (HS1.out _ g0.po).mono ?_; rintro e y1 ⟨rfl, hy⟩
                       have g1 := g0.here hy
                       have s1 := HR.out _ _ g1))
                  | (go_at_call_of 11 (Value.string ⟨pq.toArray⟩); first
                    | (refine (HS2.out _ g1.po).mono ?_; rintro e y2 ⟨rfl, hy⟩
                       have g2 := g1.here hy
                       have s2 := HR.out _ _ g2)
                    | (refine (HS2.out _ g0.po).mono ?_; rintro e y1 ⟨rfl, hy⟩
                       have g1 := g0.here hy
                       have s1 := HR.out _ _ g1)))
              all_goals
                go_wp2_with fail
                go_meet
                exact ⟨rfl, rfl, by rw [HFJ.out], by rw [HFE.out], _, rfl, g2⟩
          case rest =>
          obtain ⟨rfl, rfl, rfl, rfl, w6, rfl, H6⟩ := hcut
          have HK6 := Lib.hid (HK5.out.here H6.out.bl)
          have HB6 := Lib.hid (HB5.out.trans (H6.out.bl.mono HB5.out.size))
          clear HK5 HB5 H6 HFI HFL HFB HYO HYC HYQ HFD HYL
          have r2 := HK6.out.c 1 2 rfl rfl
          go_wp2_with fail
          go_loopw [11, 12, 16, 87] (fun p q _ j wi => ∃ i : Nat, i ≤ steps.length ∧ j = .int .i64 i ∧ p = .string ⟨(txtL (F1 i)).toArray⟩ ∧ q = .string ⟨(txtL (F2 i)).toArray⟩ ∧ Hid (Below w6.heap.size w6 wi)) (fun _ _ _ j _ => steps.length - (intOf j).toNat)
          case atStart => exact ⟨0, Nat.zero_le _, rfl, rfl, rfl, Below.refl _ _⟩
          case round =>
            clear r2
            obtain ⟨i, hi, rfl, rfl, rfl, HBI⟩ := hrel
            have hs2000 := HSL.out
            by_cases hil : i < steps.length
            · obtain ⟨b2, off2, s, hAs, hb2, hs, f0, f1, f2, f3, f4, f5⟩ := (((HOS.out.below HB6.out).below HBI.out).sl S6_len).stepB hil
              have HT1 := Lib.hid (HF1.out.2.2 i s hs); have HT2 := Lib.hid (HF2.out.2.2 i s hs)
              have HS1 := Lib.hid (fun W hp => Sub_any (txtL (F1 i)) s.cost W hp (by have := HF1.out.2.1 i; omega) (by have := (HSZ.out s (List.mem_of_getElem? hs)).2.2; omega))
              have HS2 := Lib.hid (fun W hp => Sub_any (txtL (F2 i)) s.q W hp (by have := HF2.out.2.1 i; omega) (by have := (HSZ.out s (List.mem_of_getElem? hs)).1; omega))
              rw [val_txtL] at HS1 HS2
              subst hAs
              clear hs
              have HSK := Lib.hid ((HK6.out.here HBI.out).new wr.heap.size rfl #[.string ⟨s.cause.toArray⟩, .string ⟨s.src.toArray⟩, .string ⟨s.dst.toArray⟩, .string ⟨s.q.toArray⟩, .string ⟨s.made.toArray⟩, .string ⟨s.cost.toArray⟩] 44)
              have HBA := Lib.hid (HBI.out.alloc HBI.out.size (.cells #[.string ⟨s.cause.toArray⟩, .string ⟨s.src.toArray⟩, .string ⟨s.dst.toArray⟩, .string ⟨s.q.toArray⟩, .string ⟨s.made.toArray⟩, .string ⟨s.cost.toArray⟩] 44))
              unfold StrPost S at HS1 HS2
              cases hsb : (s.src == y.id) with
              | true =>
                have hse : s.src = y.id := by simpa using hsb
                have HN1' := Lib.hid (show F1 (i + 1) = F1 i - val s.cost by rw [HT1.out, if_pos (by simpa using hse)])
                have HN2' := Lib.hid (show F2 (i + 1) = F2 i - val s.q by rw [HT2.out, if_pos (by simpa using hse)])
                rw [← HN1'.out] at HS1
                rw [← HN2'.out] at HS2
                clear HT1 HT2 HN1' HN2' hse
                go_upto_region 16 with (fail)
                clear f0 f1 f2 f3 f4 f5
                generalize wr.alloc (.cells #[.string ⟨s.cause.toArray⟩, .string ⟨s.src.toArray⟩, .string ⟨s.dst.toArray⟩, .string ⟨s.q.toArray⟩, .string ⟨s.made.toArray⟩, .string ⟨s.cost.toArray⟩] 44) = Wi at *
                have e1 := HSK.out.c 0 1 rfl rfl; have e0 := HSK.out.c 1 0 rfl rfl
                go_upto_region 17 with (fail)
                clear e1 e0
                have H0 := Lib.hid (Kp.start HSK.out.pw)
                have HR := Lib.hid (show ∀ X bs, Kp Wi bs X → X.cell? ⟨wr.heap.size, 5, none⟩ = some (.string ⟨s.cost.toArray⟩) ∧ X.cell? ⟨wr.heap.size, 3, none⟩ = some (.string ⟨s.q.toArray⟩) from fun X bs h => ⟨(HSK.out.here h.bl).c 0 5 rfl rfl, (HSK.out.here h.bl).c 0 3 rfl rfl⟩)
                generalize ho1 : txtL (F1 (i + 1)) = o1 at *
                have HO1 := Lib.hid ho1; clear ho1
                generalize ho2 : txtL (F2 (i + 1)) = o2 at *
                have HO2 := Lib.hid ho2; clear ho2
                generalize txtL (F1 i) = p1 at *
                generalize txtL (F2 i) = p2 at *
                obtain ⟨s00, s01⟩ := HR.out _ _ H0.out
                have g0 := H0.out.drew
                have s0 := HR.out _ _ g0
                go_region_held3 (fun X => X.cell? ⟨wr.heap.size, 5, none⟩ = some (.string ⟨s.cost.toArray⟩) ∧ X.cell? ⟨wr.heap.size, 3, none⟩ = some (.string ⟨s.q.toArray⟩))
                  (first
                    | with_reducible exact s2
                    | with_reducible exact s1
                    | with_reducible exact s0
                    | go_keep)
                  (first
                    | (go_at_call_of 11 (Value.string ⟨p1.toArray⟩); first
                      | (refine (HS1.out _ g1.po).mono ?_; rintro e y2 ⟨rfl, hy⟩
                         have g2 := g1.here hy
                         have s2 := HR.out _ _ g2)
                      | (refine (HS1.out _ g0.po).mono ?_; rintro e y1 ⟨rfl, hy⟩
                         have g1 := g0.here hy
                         have s1 := HR.out _ _ g1))
                    | (go_at_call_of 11 (Value.string ⟨p2.toArray⟩); first
                      | (refine (HS2.out _ g1.po).mono ?_; rintro e y2 ⟨rfl, hy⟩
                         have g2 := g1.here hy
                         have s2 := HR.out _ _ g2)
                      | (refine (HS2.out _ g0.po).mono ?_; rintro e y1 ⟨rfl, hy⟩
                         have g1 := g0.here hy
                         have s1 := HR.out _ _ g1)))
                all_goals
                  go_wp2_with fail
                  go_roundw
                  case rel => exact ⟨i + 1, by omega, by go_num, by rw [HO1.out], by rw [HO2.out], HBA.out.trans (g2.bl.mono HBA.out.size)⟩
                  case measure => simp [intOf]; omega
              | false =>
                have hse : ¬ s.src = y.id := by simpa using hsb
                have HN1' := Lib.hid (show F1 (i + 1) = F1 i by rw [HT1.out, if_neg (by simpa using hse), Int.sub_zero])
                have HN2' := Lib.hid (show F2 (i + 1) = F2 i by rw [HT2.out, if_neg (by simpa using hse), Int.sub_zero])
                clear HT1 HT2 hse HS1 HS2
                go_upto_region 16 with (fail)
                clear f0 f1 f2 f3 f4 f5
                generalize wr.alloc (.cells #[.string ⟨s.cause.toArray⟩, .string ⟨s.src.toArray⟩, .string ⟨s.dst.toArray⟩, .string ⟨s.q.toArray⟩, .string ⟨s.made.toArray⟩, .string ⟨s.cost.toArray⟩] 44) = Wi at *
                have e1 := HSK.out.c 0 1 rfl rfl; have e0 := HSK.out.c 1 0 rfl rfl
                go_wp2_with fail
                go_roundw
                case rel => exact ⟨i + 1, by omega, by go_num, by rw [HN1'.out], by rw [HN2'.out], HBA.out⟩
                case measure => simp [intOf]; omega
            · obtain rfl : i = steps.length := by omega
              rw [HF1.out.1, HF2.out.1]
              have hol := HOL.out
              have HB7 := Lib.hid (HB6.out.trans (HBI.out.mono HB6.out.size))
              have hz : txtL 0 = [] := by decide
              rw [hz]
              go_wp2_with fail
              go_roundw
              case rel => exact ⟨k + 1, by omega, by go_num, HB7.out⟩
              case measure => simp [intOf]; omega
        · obtain rfl : k = old.length := by omega
          go_wp2_with fail
          go_loopw [18, 19, 20, 22, 114] (fun _ _ _ _ j wx => ∃ k : Nat, k ≤ nw.length ∧ j = .int .i64 k ∧ Hid (Below W3.heap.size W3 wx)) (fun _ _ _ _ j _ => nw.length - (intOf j).toNat)
          case atStart => exact ⟨0, Nat.zero_le _, rfl, HBR.out⟩
          case round =>
            clear HBR HKR
            obtain ⟨k, hk, rfl, HBR⟩ := hrel
            have HKR := Lib.hid (HK3.out.here HBR.out)
            by_cases hlt : k < nw.length
            · obtain ⟨b, off, y, hAe, hb, hy, d0, d1, d2, d3, d4, d5, d6⟩ := ((HOM.out.below HBR.out).sl L7_len).lot7 hlt
              obtain ⟨e1, e2⟩ := HNEW.out y (List.mem_of_getElem? hy)
              obtain ⟨yc, yq⟩ := HCAN.out.2 y (List.mem_of_getElem? hy)
              obtain ⟨F1, f10, f1n, f1l, f1s⟩ := left_fun (xs := steps) (fun s => decide (s.dst = y.id)) (·.cost) (fun s hs => (HSZ.out s hs).2.2) HSL.out
              obtain ⟨F2, f20, f2n, f2l, f2s⟩ := left_fun (xs := steps) (fun s => decide (s.dst = y.id)) (·.made) (fun s hs => (HSZ.out s hs).2.1) HSL.out
              rw [← f10] at e1
              rw [← f20] at e2
              have HY1 := Lib.hid (show y.c = txtL (F1 0) by rw [e1]; exact yc); have HY2 := Lib.hid (show y.q = txtL (F2 0) by rw [e2]; exact yq)
              have HF1 := Lib.hid (And.intro f1n (And.intro f1l f1s)); have HF2 := Lib.hid (And.intro f2n (And.intro f2l f2s))
              clear f10 f1n f1l f1s f20 f2n f2l f2s yc yq e1 e2
              subst hAe
              clear hy
              have HAB := Lib.hid (HBR.out.alloc HBR.out.size (.cells #[.string ⟨y.id.toArray⟩, .string ⟨y.inst.toArray⟩, .int .i64 y.acq, .int .i64 y.opn, .string ⟨y.q.toArray⟩, .string ⟨y.c.toArray⟩, .string ⟨y.u.toArray⟩] 39))
              have HA1 := Lib.hid (HKR.out.new wr.heap.size rfl #[.string ⟨y.id.toArray⟩, .string ⟨y.inst.toArray⟩, .int .i64 y.acq, .int .i64 y.opn, .string ⟨y.q.toArray⟩, .string ⟨y.c.toArray⟩, .string ⟨y.u.toArray⟩] 39)
              go_upto_region 25 with (fail)
              clear d0 d1 d2 d3 d4 d5 d6
              generalize (wr.alloc (.cells #[.string ⟨y.id.toArray⟩, .string ⟨y.inst.toArray⟩, .int .i64 y.acq, .int .i64 y.opn, .string ⟨y.q.toArray⟩, .string ⟨y.c.toArray⟩, .string ⟨y.u.toArray⟩] 39)) = Wy at *
              have y4 := HA1.out.c 0 4 rfl rfl; have y5 := HA1.out.c 0 5 rfl rfl
              go_cut [19, 20] (fun p q wc => p = .string ⟨y.c.toArray⟩ ∧ q = .string ⟨y.q.toArray⟩ ∧ Wy.drew = wc)
              case first =>
                go_region_held3 (fun X => X.cell? ⟨wr.heap.size, 4, none⟩ = some (.string ⟨y.q.toArray⟩) ∧ X.cell? ⟨wr.heap.size, 5, none⟩ = some (.string ⟨y.c.toArray⟩)) (go_keep) (fail)
                all_goals
                  go_wp2_with fail
                  go_meet
                  exact ⟨rfl, rfl, rfl⟩
              case rest =>
              obtain ⟨rfl, rfl, rfl⟩ := hcut
              have HK6 := Lib.hid HA1.out.drew
              have HB6 := Lib.hid HAB.out.drew
              clear y4 y5 HA1 HAB
              have r2 := HK6.out.c 1 2 rfl rfl
              generalize Wy.drew = w6 at *
              go_wp2_with fail
              go_loopw [19, 20, 22, 125] (fun p q _ j wi => ∃ i : Nat, i ≤ steps.length ∧ j = .int .i64 i ∧ p = .string ⟨(txtL (F1 i)).toArray⟩ ∧ q = .string ⟨(txtL (F2 i)).toArray⟩ ∧ Hid (Below w6.heap.size w6 wi)) (fun _ _ _ j _ => steps.length - (intOf j).toNat)
              case atStart => exact ⟨0, Nat.zero_le _, rfl, by rw [HY1.out], by rw [HY2.out], Below.refl _ _⟩
              case round =>
                clear r2 HY1 HY2
                obtain ⟨i, hi, rfl, rfl, rfl, HBI⟩ := hrel
                have hs2000 := HSL.out
                by_cases hil : i < steps.length
                · obtain ⟨b2, off2, s, hAs, hb2, hs, f0, f1, f2, f3, f4, f5⟩ := (((HOS.out.below HB6.out).below HBI.out).sl S6_len).stepB hil
                  have HT1 := Lib.hid (HF1.out.2.2 i s hs); have HT2 := Lib.hid (HF2.out.2.2 i s hs)
                  have HS1 := Lib.hid (fun W hp => Sub_any (txtL (F1 i)) s.cost W hp (by have := HF1.out.2.1 i; omega) (by have := (HSZ.out s (List.mem_of_getElem? hs)).2.2; omega))
                  have HS2 := Lib.hid (fun W hp => Sub_any (txtL (F2 i)) s.made W hp (by have := HF2.out.2.1 i; omega) (by have := (HSZ.out s (List.mem_of_getElem? hs)).2.1; omega))
                  rw [val_txtL] at HS1 HS2
                  subst hAs
                  clear hs
                  have HSK := Lib.hid ((HK6.out.here HBI.out).new wr.heap.size rfl #[.string ⟨s.cause.toArray⟩, .string ⟨s.src.toArray⟩, .string ⟨s.dst.toArray⟩, .string ⟨s.q.toArray⟩, .string ⟨s.made.toArray⟩, .string ⟨s.cost.toArray⟩] 44)
                  have HBA := Lib.hid (HBI.out.alloc HBI.out.size (.cells #[.string ⟨s.cause.toArray⟩, .string ⟨s.src.toArray⟩, .string ⟨s.dst.toArray⟩, .string ⟨s.q.toArray⟩, .string ⟨s.made.toArray⟩, .string ⟨s.cost.toArray⟩] 44))
                  unfold StrPost S at HS1 HS2
                  cases hsb : (s.dst == y.id) with
                  | true =>
                    have hse : s.dst = y.id := by simpa using hsb
                    have HN1' := Lib.hid (show F1 (i + 1) = F1 i - val s.cost by rw [HT1.out, if_pos (by simpa using hse)])
                    have HN2' := Lib.hid (show F2 (i + 1) = F2 i - val s.made by rw [HT2.out, if_pos (by simpa using hse)])
                    rw [← HN1'.out] at HS1
                    rw [← HN2'.out] at HS2
                    clear HT1 HT2 HN1' HN2' hse
                    go_upto_region 29 with (fail)
                    clear f0 f1 f2 f3 f4 f5
                    generalize wr.alloc (.cells #[.string ⟨s.cause.toArray⟩, .string ⟨s.src.toArray⟩, .string ⟨s.dst.toArray⟩, .string ⟨s.q.toArray⟩, .string ⟨s.made.toArray⟩, .string ⟨s.cost.toArray⟩] 44) = Wi at *
                    have e1 := HSK.out.c 0 2 rfl rfl; have e0 := HSK.out.c 1 0 rfl rfl
                    go_upto_region 30 with (fail)
                    clear e1 e0
                    have H0 := Lib.hid (Kp.start HSK.out.pw)
                    have HR := Lib.hid (show ∀ X bs, Kp Wi bs X → X.cell? ⟨wr.heap.size, 5, none⟩ = some (.string ⟨s.cost.toArray⟩) ∧ X.cell? ⟨wr.heap.size, 4, none⟩ = some (.string ⟨s.made.toArray⟩) from fun X bs h => ⟨(HSK.out.here h.bl).c 0 5 rfl rfl, (HSK.out.here h.bl).c 0 4 rfl rfl⟩)
                    generalize ho1 : txtL (F1 (i + 1)) = o1 at *
                    have HO1 := Lib.hid ho1; clear ho1
                    generalize ho2 : txtL (F2 (i + 1)) = o2 at *
                    have HO2 := Lib.hid ho2; clear ho2
                    generalize txtL (F1 i) = p1 at *
                    generalize txtL (F2 i) = p2 at *
                    obtain ⟨s00, s01⟩ := HR.out _ _ H0.out
                    have g0 := H0.out.drew
                    have s0 := HR.out _ _ g0
                    go_region_held3 (fun X => X.cell? ⟨wr.heap.size, 5, none⟩ = some (.string ⟨s.cost.toArray⟩) ∧ X.cell? ⟨wr.heap.size, 4, none⟩ = some (.string ⟨s.made.toArray⟩))
                      (first
                        | with_reducible exact s2
                        | with_reducible exact s1
                        | with_reducible exact s0
                        | go_keep)
                      (first
                        | (go_at_call_of 11 (Value.string ⟨p1.toArray⟩); first
                          | (refine (HS1.out _ g1.po).mono ?_; rintro e y2 ⟨rfl, hy⟩
                             have g2 := g1.here hy
                             have s2 := HR.out _ _ g2)
                          | (refine (HS1.out _ g0.po).mono ?_; rintro e y1 ⟨rfl, hy⟩
                             have g1 := g0.here hy
                             have s1 := HR.out _ _ g1))
                        | (go_at_call_of 11 (Value.string ⟨p2.toArray⟩); first
                          | (refine (HS2.out _ g1.po).mono ?_; rintro e y2 ⟨rfl, hy⟩
                             have g2 := g1.here hy
                             have s2 := HR.out _ _ g2)
                          | (refine (HS2.out _ g0.po).mono ?_; rintro e y1 ⟨rfl, hy⟩
                             have g1 := g0.here hy
                             have s1 := HR.out _ _ g1)))
                    all_goals
                      go_wp2_with fail
                      go_roundw
                      case rel => exact ⟨i + 1, by omega, by go_num, by rw [HO1.out], by rw [HO2.out], HBA.out.trans (g2.bl.mono HBA.out.size)⟩
                      case measure => simp [intOf]; omega
                  | false =>
                    have hse : ¬ s.dst = y.id := by simpa using hsb
                    have HN1' := Lib.hid (show F1 (i + 1) = F1 i by rw [HT1.out, if_neg (by simpa using hse), Int.sub_zero])
                    have HN2' := Lib.hid (show F2 (i + 1) = F2 i by rw [HT2.out, if_neg (by simpa using hse), Int.sub_zero])
                    clear HT1 HT2 hse HS1 HS2
                    go_upto_region 29 with (fail)
                    clear f0 f1 f2 f3 f4 f5
                    generalize wr.alloc (.cells #[.string ⟨s.cause.toArray⟩, .string ⟨s.src.toArray⟩, .string ⟨s.dst.toArray⟩, .string ⟨s.q.toArray⟩, .string ⟨s.made.toArray⟩, .string ⟨s.cost.toArray⟩] 44) = Wi at *
                    have e1 := HSK.out.c 0 2 rfl rfl; have e0 := HSK.out.c 1 0 rfl rfl
                    go_wp2_with fail
                    go_roundw
                    case rel => exact ⟨i + 1, by omega, by go_num, by rw [HN1'.out], by rw [HN2'.out], HBA.out⟩
                    case measure => simp [intOf]; omega
                · obtain rfl : i = steps.length := by omega
                  rw [HF1.out.1, HF2.out.1]
                  have hnl := HNL2.out
                  have HB7 := Lib.hid (HB6.out.trans (HBI.out.mono HB6.out.size))
                  have hz : txtL 0 = [] := by decide
                  rw [hz]
                  go_wp2_with fail
                  go_roundw
                  case rel => exact ⟨k + 1, by omega, by go_num, HB7.out⟩
                  case measure => simp [intOf]; omega
            · obtain rfl : k = nw.length := by omega
              have HCT := Lib.hid (fun W (h : Below W3.heap.size W3 W) => containsSp_any 13 #[.pointer (some ⟨w.heap.size, 0, none⟩)] (fun s : Stp => s.cause != m.cause) As steps.length cs steps W (enters_of Tryz.func13 (by kernel_rfl) rfl)
                (fun W' x _ hb' => steps1_any x m.cause w.heap.size W' (((HK3.out.here h).here hb').c 1 0 rfl rfl)) ((HOS.out.below h).sl S6_len) (by have := HSL.out; omega))
              rw [show (steps.any fun s : Stp => s.cause != m.cause) = false by rw [List.any_eq_false]; intro s hs; simpa using HCAU.out s hs] at HCT
              have r2 := HKR.out.c 0 2 rfl rfl
              go_wp2_with fail
              refine (HCT.out _ HBR.out).mono ?_
              rintro e w6 ⟨rfl, hb6⟩
              have HK6 := Lib.hid (HKR.out.here hb6)
              go_wp2_with fail
              refine (HAW.out _ HK6.out.bl).mono ?_
              rintro e w7 ⟨rfl, hb7⟩
              go_wp2_with fail
              first | go_ret | skip
              exact ⟨rfl, (HK6.out.here hb7).bl⟩
    · rw [HNL.out, if_neg h0, HNO.out h0] at oO oM oL oG oS ⊢
      dsimp only
      rw [show Res.none.lots.length = 0 from rfl, show Res.none.gains.length = 0 from rfl, show Res.none.steps.length = 0 from rfl, show ([] : List Lot).length = 0 from rfl]
      have HK2 := Lib.hid (HK1.out.here hb2)
      have HK3 := Lib.hid (HK2.out.new w2.heap.size rfl #[.slice A1 0 c1, .slice Ag 0 cg, .slice As 0 cs, .slice none 0 0] 35)
      have e1 := HK3.out.c 0 0 rfl rfl
      clear oO oM oL oG oS hb2 h0
      go_wp2_with fail
      refine (HAW.out _ HK3.out.bl).mono ?_
      rintro e w4 ⟨rfl, hb4⟩
      go_wp2_with fail
      first | go_ret | skip
      exact ⟨rfl, (HK3.out.here hb4).bl⟩
end Go.Proofs.YtbnfgbcgpbdpcaaGreatDoor
