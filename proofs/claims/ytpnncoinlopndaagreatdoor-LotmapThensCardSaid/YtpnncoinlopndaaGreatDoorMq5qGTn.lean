/- Mq5. -/
import Derived.Test.YtpnncoinlopndaaGreatDoorQGTn11
import Derived.Test.YtpnncoinlopndaaGreatDoorQGTn14
import Derived.Test.YtpnncoinlopndaaGreatDoorQGTn15
import Derived.Deep.DeepCutAuto
import Derived.Deep.RegionHeld3
import Derived.Deep.RegionWith
namespace Go.Proofs.YtpnncoinlopndaaGreatDoor
open Go.RowKit Go.Shelf
attribute [local go_sem ↓] Go.wp_at_zero Go.wp_at_succ
def MpV (m : Mp) : Value := .agg (mpA m).toArray
structure Mp.Sz (L : Nat) (m : Mp) : Prop where
  cause : m.cause.length ≤ L
  inst : m.inst.length ≤ L
  other : m.other.length ≤ L
  ratio : m.ratio.Sz L
  share : m.share.Sz L
  price : m.price.Sz L
  d1 : -9223372036854775808 ≤ m.day
  d2 : m.day ≤ 9223372036854775807
theorem cmpR_le (x y : Rat) : decide (cmpR x y ≤ 0) = decide (x ≤ y) := by
  unfold cmpR
  rw [Bool.eq_iff_iff, decide_eq_true_eq, decide_eq_true_eq]
  by_cases h1 : x < y
  · simp only [if_pos h1]; exact ⟨fun _ => Rat.le_of_lt h1, fun _ => by decide⟩
  · rw [if_neg h1]
    by_cases h2 : y < x
    · rw [if_pos h2]; exact ⟨fun h => absurd h (by decide), fun h => absurd h2 (Rat.not_lt.2 h)⟩
    · rw [if_neg h2]; exact ⟨fun _ => Rat.not_lt.1 h2, fun _ => by decide⟩
theorem cmpR_lt (x y : Rat) : decide (cmpR x y < 0) = decide (x < y) := by
  unfold cmpR
  by_cases h : x < y
  · simp [h]
  · rw [if_neg h]
    simp only [h, decide_false, decide_eq_false_iff_not]
    split <;> decide
theorem cmpR_gt (x y : Rat) : decide (0 < cmpR x y) = decide (y < x) := by
  unfold cmpR
  by_cases h : x < y
  · rw [if_pos h]
    have : ¬ y < x := Rat.not_lt.2 (Rat.le_of_lt h)
    simp [this]
  · rw [if_neg h]
    by_cases h2 : y < x <;> simp [h2]
theorem cmpR_vals (x y : Rat) : cmpR x y = -1 ∨ cmpR x y = 0 ∨ cmpR x y = 1 := by
  unfold cmpR
  split
  · exact .inl rfl
  · split
    · exact .inr (.inr rfl)
    · exact .inr (.inl rfl)
theorem one_eq {f : Fr} (h : f.ok) : (f = frOf 1) ↔ f.rat = 1 := ⟨fun e => by rw [e, rat_frOf], fun e => by rw [h, e]⟩
theorem mpC_bool (m : Mp) : mpC m = if (!(nameB m.cause && nameB m.inst && nameB m.other)) = true then 23 else if (!dayB m.day) = true then 13 else if (!(decide m.ratio.ok && decide m.share.ok && decide m.price.ok)) = true then 1
    else if (decide (m.ratio.rat ≤ 0) || decide (m.share.rat < 0) || decide (1 < m.share.rat) || decide (m.price.rat < 0)) = true then 2 else if (m.keep && (m.other == m.inst)) = true then 18 else if (!m.keep && !(m.share.n == (frOf 1).n && m.share.d == (frOf 1).d)) = true then 9 else 0 := by
  unfold mpC
  by_cases hA : (!(nameB m.cause && nameB m.inst && nameB m.other)) = true
  · rw [if_pos hA, if_pos hA]
  rw [if_neg hA, if_neg hA]
  by_cases hB : (!dayB m.day) = true
  · rw [if_pos hB, if_pos hB]
  rw [if_neg hB, if_neg hB]
  by_cases h1 : m.ratio.ok ∧ m.share.ok ∧ m.price.ok
  · rw [if_neg (not_not_intro h1), if_neg (show ¬ (!(decide m.ratio.ok && decide m.share.ok && decide m.price.ok)) = true by simp [h1.1, h1.2.1, h1.2.2])]
    by_cases h2 : m.ratio.rat ≤ 0 ∨ m.share.rat < 0 ∨ 1 < m.share.rat ∨ m.price.rat < 0
    · rw [if_pos h2, if_pos (show (decide (m.ratio.rat ≤ 0) || decide (m.share.rat < 0) || decide (1 < m.share.rat) || decide (m.price.rat < 0)) = true by simp only [Bool.or_eq_true, decide_eq_true_eq, or_assoc]; exact h2)]
    · rw [if_neg h2, if_neg (show ¬ (decide (m.ratio.rat ≤ 0) || decide (m.share.rat < 0) || decide (1 < m.share.rat) || decide (m.price.rat < 0)) = true by simp only [Bool.or_eq_true, decide_eq_true_eq, or_assoc]; exact h2)]
      by_cases h3 : m.keep = true ∧ m.other = m.inst
      · rw [if_pos h3, if_pos (show (m.keep && (m.other == m.inst)) = true by simp [h3.1, h3.2])]
      · rw [if_neg h3, if_neg (show ¬ (m.keep && (m.other == m.inst)) = true by simpa using h3)]
        have he : (m.share.n == (frOf 1).n && m.share.d == (frOf 1).d) = decide (m.share.rat = 1) := by
          rw [Bool.eq_iff_iff, decide_eq_true_eq, ← one_eq h1.2.1]
          simp only [Bool.and_eq_true, beq_iff_eq]
          exact ⟨fun h => Fr.ext_ h.1 h.2, fun h => by rw [h]; exact ⟨rfl, rfl⟩⟩
        rw [he]
        by_cases h4 : m.keep = false ∧ m.share.rat ≠ 1
        · rw [if_pos h4, if_pos (by simp [h4.1, h4.2])]
        · rw [if_neg h4, if_neg (by simpa using h4)]
  · rw [if_pos h1, if_pos (show (!(decide m.ratio.ok && decide m.share.ok && decide m.price.ok)) = true by
      by_cases a1 : m.ratio.ok <;> by_cases a2 : m.share.ok <;> by_cases a3 : m.price.ok <;> simp_all)]
set_option maxRecDepth 20000 in
set_option maxHeartbeats 4000000 in
theorem mCheck_any (m : Mp) (hm : m.Sz 5000) : Gives 10 #[MpV m] (.int .i64 (mpC m)) := by
  intro w hp
  have HPO := Lib.hid (mpC_bool m)
  generalize mpC m = res at *
  have H := Lib.hid ((Kp.start hp).new w.heap.size rfl #[.string ⟨m.cause.toArray⟩, .int .i64 m.day, .string ⟨m.inst.toArray⟩, .string ⟨m.other.toArray⟩, .string ⟨m.ratio.n.toArray⟩, .string ⟨m.ratio.d.toArray⟩, .string ⟨m.share.n.toArray⟩, .string ⟨m.share.d.toArray⟩, .string ⟨m.price.n.toArray⟩, .string ⟨m.price.d.toArray⟩, .bool m.keep] 28)
  have HWD := Lib.hid (weekday_any m.day hm.d1 hm.d2)
  have HN1 := Lib.hid (name_any m.cause); have HN2 := Lib.hid (name_any m.inst); have HN3 := Lib.hid (name_any m.other)
  have HC1 := Lib.hid (fun W hp => fCheck_any m.ratio W hp (hm.ratio.more (by omega))); have HC2 := Lib.hid (fun W hp => fCheck_any m.share W hp (hm.share.more (by omega))); have HC3 := Lib.hid (fun W hp => fCheck_any m.price W hp (hm.price.more (by omega)))
  rw [show chkF m.ratio = if decide m.ratio.ok = true then 0 else 1 by unfold chkF; simp] at HC1
  rw [show chkF m.share = if decide m.share.ok = true then 0 else 1 by unfold chkF; simp] at HC2
  rw [show chkF m.price = if decide m.price.ok = true then 0 else 1 by unfold chkF; simp] at HC3
  have HS1 := Lib.hid (mSign_any m.ratio (hm.ratio.more (by omega))); have HS2 := Lib.hid (mSign_any m.share (hm.share.more (by omega))); have HS3 := Lib.hid (mSign_any m.price (hm.price.more (by omega)))
  have HO1 := Lib.hid mOne_any
  have hosz : (frOf 1).Sz 20000 := by rw [show (1 : Rat) = ((1 : Int) : Rat) from rfl, frOf_int]; exact ⟨by decide +kernel, by simp⟩
  have HCM := Lib.hid (fun W hp => fCompare_any m.share (frOf 1) W hp (hm.share.more (by omega)) hosz)
  rw [rat_frOf] at HCM
  have e1 := cmpR_le m.ratio.rat 0; have e2 := cmpR_lt m.share.rat 0; have e3 := cmpR_gt m.share.rat 1; have e4 := cmpR_lt m.price.rat 0
  have E1 := Lib.hid e1; have E2 := Lib.hid e2; have E3 := Lib.hid e3; have E4 := Lib.hid e4
  clear e1 e2 e3 e4 hosz hm hp
  have v1 := cmpR_vals m.ratio.rat 0; have v2 := cmpR_vals m.share.rat 0; have v3 := cmpR_vals m.share.rat 1; have v4 := cmpR_vals m.price.rat 0
  generalize cmpR m.ratio.rat 0 = z1 at *; generalize cmpR m.share.rat 0 = z2 at *; generalize cmpR m.share.rat 1 = z3 at *; generalize cmpR m.price.rat 0 = z4 at *
  have V1 := Lib.hid v1; have V2 := Lib.hid v2; have V3 := Lib.hid v3; have V4 := Lib.hid v4
  clear v1 v2 v3 v4
  generalize decide (m.ratio.rat ≤ 0) = r1 at *; generalize decide (m.share.rat < 0) = r2 at *; generalize decide (1 < m.share.rat) = r3 at *; generalize decide (m.price.rat < 0) = r4 at *
  generalize decide m.ratio.ok = o1 at *; generalize decide m.share.ok = o2 at *; generalize decide m.price.ok = o3 at *
  generalize hc1 : (if o1 = true then (0 : Int) else 1) = c1 at *; generalize hc2 : (if o2 = true then (0 : Int) else 1) = c2 at *; generalize hc3 : (if o3 = true then (0 : Int) else 1) = c3 at *
  generalize hcd : (if dayB m.day = true then (0 : Int) else 13) = cd at *
  have KD := Lib.hid hcd
  clear hcd
  have K1 := Lib.hid hc1; have K2 := Lib.hid hc2; have K3 := Lib.hid hc3
  clear hc1 hc2 hc3
  generalize frOf 1 = one at *
  generalize nameB m.cause = n1 at *; generalize nameB m.inst = n2 at *; generalize nameB m.other = n3 at *; generalize dayB m.day = dd at *
  generalize wkd m.day = wk at *
  have eA : (mpA m).toArray = #[.string ⟨m.cause.toArray⟩, .int .i64 m.day, .string ⟨m.inst.toArray⟩, .string ⟨m.other.toArray⟩, .string ⟨m.ratio.n.toArray⟩, .string ⟨m.ratio.d.toArray⟩, .string ⟨m.share.n.toArray⟩, .string ⟨m.share.d.toArray⟩, .string ⟨m.price.n.toArray⟩, .string ⟨m.price.d.toArray⟩, .bool m.keep] := rfl
  unfold MpV
  rw [eA]
  clear eA
  unfold FrV at *
  unfold S at *
  have x0 := H.out.c 0 0 rfl rfl; have x1 := H.out.c 0 1 rfl rfl; have x2 := H.out.c 0 2 rfl rfl; have x3 := H.out.c 0 3 rfl rfl; have x4 := H.out.c 0 4 rfl rfl; have x5 := H.out.c 0 5 rfl rfl; have x6 := H.out.c 0 6 rfl rfl; have x7 := H.out.c 0 7 rfl rfl; have x8 := H.out.c 0 8 rfl rfl; have x9 := H.out.c 0 9 rfl rfl; have x10 := H.out.c 0 10 rfl rfl
  go_enter Tryz.func10, Tryz.ntmps10
  go_wp2_with fail
  generalize w.alloc (.cells #[.string ⟨m.cause.toArray⟩, .int .i64 m.day, .string ⟨m.inst.toArray⟩, .string ⟨m.other.toArray⟩, .string ⟨m.ratio.n.toArray⟩, .string ⟨m.ratio.d.toArray⟩, .string ⟨m.share.n.toArray⟩, .string ⟨m.share.d.toArray⟩, .string ⟨m.price.n.toArray⟩, .string ⟨m.price.d.toArray⟩, .bool m.keep] 28) = W at *
  refine (HWD.out _ H.out.pw).mono ?_
  rintro e w1 ⟨rfl, hb⟩
  replace H := Lib.hid (H.out.here hb)
  clear hb; clear x0 x1 x2 x3 x4 x5 x6 x7 x8 x9 x10
  have x0 := H.out.c 0 0 rfl rfl; have x1 := H.out.c 0 1 rfl rfl; have x2 := H.out.c 0 2 rfl rfl; have x3 := H.out.c 0 3 rfl rfl; have x4 := H.out.c 0 4 rfl rfl; have x5 := H.out.c 0 5 rfl rfl; have x6 := H.out.c 0 6 rfl rfl; have x7 := H.out.c 0 7 rfl rfl; have x8 := H.out.c 0 8 rfl rfl; have x9 := H.out.c 0 9 rfl rfl; have x10 := H.out.c 0 10 rfl rfl
  go_wp2_with fail
  refine (HN1.out _ H.out.pw).mono ?_
  rintro e w1 ⟨rfl, hb⟩
  replace H := Lib.hid (H.out.here hb)
  clear hb; clear x0 x1 x2 x3 x4 x5 x6 x7 x8 x9 x10
  have x0 := H.out.c 0 0 rfl rfl; have x1 := H.out.c 0 1 rfl rfl; have x2 := H.out.c 0 2 rfl rfl; have x3 := H.out.c 0 3 rfl rfl; have x4 := H.out.c 0 4 rfl rfl; have x5 := H.out.c 0 5 rfl rfl; have x6 := H.out.c 0 6 rfl rfl; have x7 := H.out.c 0 7 rfl rfl; have x8 := H.out.c 0 8 rfl rfl; have x9 := H.out.c 0 9 rfl rfl; have x10 := H.out.c 0 10 rfl rfl
  cases n1 with
  | false =>
    go_wp2_with fail
    first | go_ret | skip
    rw [HPO.out]
    exact ⟨ret_int (by simp), H.out.bl⟩
  | true =>
    go_wp2_with fail
    refine (HN2.out _ H.out.pw).mono ?_
    rintro e w1 ⟨rfl, hb⟩
    replace H := Lib.hid (H.out.here hb)
    clear hb; clear x0 x1 x2 x3 x4 x5 x6 x7 x8 x9 x10
    have x0 := H.out.c 0 0 rfl rfl; have x1 := H.out.c 0 1 rfl rfl; have x2 := H.out.c 0 2 rfl rfl; have x3 := H.out.c 0 3 rfl rfl; have x4 := H.out.c 0 4 rfl rfl; have x5 := H.out.c 0 5 rfl rfl; have x6 := H.out.c 0 6 rfl rfl; have x7 := H.out.c 0 7 rfl rfl; have x8 := H.out.c 0 8 rfl rfl; have x9 := H.out.c 0 9 rfl rfl; have x10 := H.out.c 0 10 rfl rfl
    cases n2 with
    | false =>
      go_wp2_with fail
      first | go_ret | skip
      rw [HPO.out]
      exact ⟨ret_int (by simp), H.out.bl⟩
    | true =>
      go_wp2_with fail
      refine (HN3.out _ H.out.pw).mono ?_
      rintro e w1 ⟨rfl, hb⟩
      replace H := Lib.hid (H.out.here hb)
      clear hb; clear x0 x1 x2 x3 x4 x5 x6 x7 x8 x9 x10
      have x0 := H.out.c 0 0 rfl rfl; have x1 := H.out.c 0 1 rfl rfl; have x2 := H.out.c 0 2 rfl rfl; have x3 := H.out.c 0 3 rfl rfl; have x4 := H.out.c 0 4 rfl rfl; have x5 := H.out.c 0 5 rfl rfl; have x6 := H.out.c 0 6 rfl rfl; have x7 := H.out.c 0 7 rfl rfl; have x8 := H.out.c 0 8 rfl rfl; have x9 := H.out.c 0 9 rfl rfl; have x10 := H.out.c 0 10 rfl rfl
      cases n3 with
      | false =>
        go_wp2_with fail
        first | go_ret | skip
        rw [HPO.out]
        exact ⟨ret_int (by simp), H.out.bl⟩
      | true =>
        cases dd with
        | false =>
          obtain rfl : cd = 13 := by rw [← KD.out]; rfl
          go_wp2_with fail
          first | go_ret | skip
          rw [HPO.out]
          exact ⟨ret_int (by simp), H.out.bl⟩
        | true =>
          obtain rfl : cd = 0 := by rw [← KD.out]; rfl
          go_wp2_with fail
          refine (HC1.out _ H.out.po).mono ?_
          rintro e w1 ⟨rfl, hb⟩
          replace H := Lib.hid (H.out.here hb)
          clear hb; clear x0 x1 x2 x3 x4 x5 x6 x7 x8 x9 x10
          have x0 := H.out.c 0 0 rfl rfl; have x1 := H.out.c 0 1 rfl rfl; have x2 := H.out.c 0 2 rfl rfl; have x3 := H.out.c 0 3 rfl rfl; have x4 := H.out.c 0 4 rfl rfl; have x5 := H.out.c 0 5 rfl rfl; have x6 := H.out.c 0 6 rfl rfl; have x7 := H.out.c 0 7 rfl rfl; have x8 := H.out.c 0 8 rfl rfl; have x9 := H.out.c 0 9 rfl rfl; have x10 := H.out.c 0 10 rfl rfl
          cases o1 with
          | false =>
            obtain rfl : c1 = 1 := by rw [← K1.out]; rfl
            go_wp2_with fail
            first | go_ret | skip
            rw [HPO.out]
            exact ⟨ret_int (by simp), H.out.bl⟩
          | true =>
            obtain rfl : c1 = 0 := by rw [← K1.out]; rfl
            go_wp2_with fail
            refine (HC2.out _ H.out.po).mono ?_
            rintro e w1 ⟨rfl, hb⟩
            replace H := Lib.hid (H.out.here hb)
            clear hb; clear x0 x1 x2 x3 x4 x5 x6 x7 x8 x9 x10
            have x0 := H.out.c 0 0 rfl rfl; have x1 := H.out.c 0 1 rfl rfl; have x2 := H.out.c 0 2 rfl rfl; have x3 := H.out.c 0 3 rfl rfl; have x4 := H.out.c 0 4 rfl rfl; have x5 := H.out.c 0 5 rfl rfl; have x6 := H.out.c 0 6 rfl rfl; have x7 := H.out.c 0 7 rfl rfl; have x8 := H.out.c 0 8 rfl rfl; have x9 := H.out.c 0 9 rfl rfl; have x10 := H.out.c 0 10 rfl rfl
            cases o2 with
            | false =>
              obtain rfl : c2 = 1 := by rw [← K2.out]; rfl
              go_wp2_with fail
              first | go_ret | skip
              rw [HPO.out]
              exact ⟨ret_int (by simp), H.out.bl⟩
            | true =>
              obtain rfl : c2 = 0 := by rw [← K2.out]; rfl
              go_wp2_with fail
              refine (HC3.out _ H.out.po).mono ?_
              rintro e w1 ⟨rfl, hb⟩
              replace H := Lib.hid (H.out.here hb)
              clear hb; clear x0 x1 x2 x3 x4 x5 x6 x7 x8 x9 x10
              have x0 := H.out.c 0 0 rfl rfl; have x1 := H.out.c 0 1 rfl rfl; have x2 := H.out.c 0 2 rfl rfl; have x3 := H.out.c 0 3 rfl rfl; have x4 := H.out.c 0 4 rfl rfl; have x5 := H.out.c 0 5 rfl rfl; have x6 := H.out.c 0 6 rfl rfl; have x7 := H.out.c 0 7 rfl rfl; have x8 := H.out.c 0 8 rfl rfl; have x9 := H.out.c 0 9 rfl rfl; have x10 := H.out.c 0 10 rfl rfl
              cases o3 with
              | false =>
                obtain rfl : c3 = 1 := by rw [← K3.out]; rfl
                go_wp2_with fail
                first | go_ret | skip
                rw [HPO.out]
                exact ⟨ret_int (by simp), H.out.bl⟩
              | true =>
                obtain rfl : c3 = 0 := by rw [← K3.out]; rfl
                go_upto_region 8 with (fail)
                go_cut [48] (fun s wc => s = .bool (r1 || r2 || r3 || r4) ∧ Hid (Kp w [(w.heap.size, #[.string ⟨m.cause.toArray⟩, .int .i64 m.day, .string ⟨m.inst.toArray⟩, .string ⟨m.other.toArray⟩, .string ⟨m.ratio.n.toArray⟩, .string ⟨m.ratio.d.toArray⟩, .string ⟨m.share.n.toArray⟩, .string ⟨m.share.d.toArray⟩, .string ⟨m.price.n.toArray⟩, .string ⟨m.price.d.toArray⟩, .bool m.keep], 28)] wc))
                case first =>
                  clear x0 x1 x2 x3 x10 HPO HWD HN1 HN2 HN3 HC1 HC2 HC3 K1 K2 K3 KD
                  rcases V1.out with rfl | rfl | rfl
                  · obtain rfl : r1 = true := by rw [← E1.out]; rfl
                    first
                    | (go_region_with
                      (first
                        | (go_at_call_of 44 (Value.agg #[.string ⟨m.ratio.n.toArray⟩, .string ⟨m.ratio.d.toArray⟩]); refine (HS1.out _ H.out.drew.pw).mono ?_; rintro e w2 ⟨rfl, hb2⟩; have ha : Below w1.heap.size w1 w2 := (Below.refl _ w1).drew.trans hb2; have ya4 := (H.out.here ha).c 0 4 rfl rfl; have ya5 := (H.out.here ha).c 0 5 rfl rfl; have ya6 := (H.out.here ha).c 0 6 rfl rfl; have ya7 := (H.out.here ha).c 0 7 rfl rfl; have ya8 := (H.out.here ha).c 0 8 rfl rfl; have ya9 := (H.out.here ha).c 0 9 rfl rfl)
                        | (go_at_call_of 44 (Value.agg #[.string ⟨m.share.n.toArray⟩, .string ⟨m.share.d.toArray⟩]); refine (HS2.out _ (H.out.here ha).pw).mono ?_; rintro e w3 ⟨rfl, hb3⟩; have hbb : Below w1.heap.size w1 w3 := ha.trans (hb3.mono ha.size); have yb4 := (H.out.here hbb).c 0 4 rfl rfl; have yb5 := (H.out.here hbb).c 0 5 rfl rfl; have yb6 := (H.out.here hbb).c 0 6 rfl rfl; have yb7 := (H.out.here hbb).c 0 7 rfl rfl; have yb8 := (H.out.here hbb).c 0 8 rfl rfl; have yb9 := (H.out.here hbb).c 0 9 rfl rfl)
                        | (go_at_call 46; refine (HO1.out _ (H.out.here hbb).pw).mono ?_; rintro e w4 ⟨rfl, hb4⟩; have hcc : Below w1.heap.size w1 w4 := hbb.trans (hb4.mono hbb.size); have yc4 := (H.out.here hcc).c 0 4 rfl rfl; have yc5 := (H.out.here hcc).c 0 5 rfl rfl; have yc6 := (H.out.here hcc).c 0 6 rfl rfl; have yc7 := (H.out.here hcc).c 0 7 rfl rfl; have yc8 := (H.out.here hcc).c 0 8 rfl rfl; have yc9 := (H.out.here hcc).c 0 9 rfl rfl)
                        | (go_at_call 45; refine (HCM.out _ (H.out.here hcc).po).mono ?_; rintro e w5 ⟨rfl, hb5⟩; have hdd : Below w1.heap.size w1 w5 := hcc.trans (hb5.mono hcc.size); have yd4 := (H.out.here hdd).c 0 4 rfl rfl; have yd5 := (H.out.here hdd).c 0 5 rfl rfl; have yd6 := (H.out.here hdd).c 0 6 rfl rfl; have yd7 := (H.out.here hdd).c 0 7 rfl rfl; have yd8 := (H.out.here hdd).c 0 8 rfl rfl; have yd9 := (H.out.here hdd).c 0 9 rfl rfl)
                        | (go_at_call_of 44 (Value.agg #[.string ⟨m.price.n.toArray⟩, .string ⟨m.price.d.toArray⟩]); refine (HS3.out _ (H.out.here hdd).pw).mono ?_; rintro e w6 ⟨rfl, hb6⟩; have hee : Below w1.heap.size w1 w6 := hdd.trans (hb6.mono hdd.size); have ye4 := (H.out.here hee).c 0 4 rfl rfl; have ye5 := (H.out.here hee).c 0 5 rfl rfl; have ye6 := (H.out.here hee).c 0 6 rfl rfl; have ye7 := (H.out.here hee).c 0 7 rfl rfl; have ye8 := (H.out.here hee).c 0 8 rfl rfl; have ye9 := (H.out.here hee).c 0 9 rfl rfl)
                      ))
                    | fail
                    all_goals
                      go_wp2_with fail
                      go_meet
                      exact ⟨by simp, H.out.here ha⟩
                  · obtain rfl : r1 = true := by rw [← E1.out]; rfl
                    first
                    | (go_region_with
                      (first
                        | (go_at_call_of 44 (Value.agg #[.string ⟨m.ratio.n.toArray⟩, .string ⟨m.ratio.d.toArray⟩]); refine (HS1.out _ H.out.drew.pw).mono ?_; rintro e w2 ⟨rfl, hb2⟩; have ha : Below w1.heap.size w1 w2 := (Below.refl _ w1).drew.trans hb2; have ya4 := (H.out.here ha).c 0 4 rfl rfl; have ya5 := (H.out.here ha).c 0 5 rfl rfl; have ya6 := (H.out.here ha).c 0 6 rfl rfl; have ya7 := (H.out.here ha).c 0 7 rfl rfl; have ya8 := (H.out.here ha).c 0 8 rfl rfl; have ya9 := (H.out.here ha).c 0 9 rfl rfl)
                        | (go_at_call_of 44 (Value.agg #[.string ⟨m.share.n.toArray⟩, .string ⟨m.share.d.toArray⟩]); refine (HS2.out _ (H.out.here ha).pw).mono ?_; rintro e w3 ⟨rfl, hb3⟩; have hbb : Below w1.heap.size w1 w3 := ha.trans (hb3.mono ha.size); have yb4 := (H.out.here hbb).c 0 4 rfl rfl; have yb5 := (H.out.here hbb).c 0 5 rfl rfl; have yb6 := (H.out.here hbb).c 0 6 rfl rfl; have yb7 := (H.out.here hbb).c 0 7 rfl rfl; have yb8 := (H.out.here hbb).c 0 8 rfl rfl; have yb9 := (H.out.here hbb).c 0 9 rfl rfl)
                        | (go_at_call 46; refine (HO1.out _ (H.out.here hbb).pw).mono ?_; rintro e w4 ⟨rfl, hb4⟩; have hcc : Below w1.heap.size w1 w4 := hbb.trans (hb4.mono hbb.size); have yc4 := (H.out.here hcc).c 0 4 rfl rfl; have yc5 := (H.out.here hcc).c 0 5 rfl rfl; have yc6 := (H.out.here hcc).c 0 6 rfl rfl; have yc7 := (H.out.here hcc).c 0 7 rfl rfl; have yc8 := (H.out.here hcc).c 0 8 rfl rfl; have yc9 := (H.out.here hcc).c 0 9 rfl rfl)
                        | (go_at_call 45; refine (HCM.out _ (H.out.here hcc).po).mono ?_; rintro e w5 ⟨rfl, hb5⟩; have hdd : Below w1.heap.size w1 w5 := hcc.trans (hb5.mono hcc.size); have yd4 := (H.out.here hdd).c 0 4 rfl rfl; have yd5 := (H.out.here hdd).c 0 5 rfl rfl; have yd6 := (H.out.here hdd).c 0 6 rfl rfl; have yd7 := (H.out.here hdd).c 0 7 rfl rfl; have yd8 := (H.out.here hdd).c 0 8 rfl rfl; have yd9 := (H.out.here hdd).c 0 9 rfl rfl)
                        | (go_at_call_of 44 (Value.agg #[.string ⟨m.price.n.toArray⟩, .string ⟨m.price.d.toArray⟩]); refine (HS3.out _ (H.out.here hdd).pw).mono ?_; rintro e w6 ⟨rfl, hb6⟩; have hee : Below w1.heap.size w1 w6 := hdd.trans (hb6.mono hdd.size); have ye4 := (H.out.here hee).c 0 4 rfl rfl; have ye5 := (H.out.here hee).c 0 5 rfl rfl; have ye6 := (H.out.here hee).c 0 6 rfl rfl; have ye7 := (H.out.here hee).c 0 7 rfl rfl; have ye8 := (H.out.here hee).c 0 8 rfl rfl; have ye9 := (H.out.here hee).c 0 9 rfl rfl)
                      ))
                    | fail
                    all_goals
                      go_wp2_with fail
                      go_meet
                      exact ⟨by simp, H.out.here ha⟩
                  · obtain rfl : r1 = false := by rw [← E1.out]; rfl
                    rcases V2.out with rfl | rfl | rfl
                    · obtain rfl : r2 = true := by rw [← E2.out]; rfl
                      first
                      | (go_region_with
                        (first
                          | (go_at_call_of 44 (Value.agg #[.string ⟨m.ratio.n.toArray⟩, .string ⟨m.ratio.d.toArray⟩]); refine (HS1.out _ H.out.drew.pw).mono ?_; rintro e w2 ⟨rfl, hb2⟩; have ha : Below w1.heap.size w1 w2 := (Below.refl _ w1).drew.trans hb2; have ya4 := (H.out.here ha).c 0 4 rfl rfl; have ya5 := (H.out.here ha).c 0 5 rfl rfl; have ya6 := (H.out.here ha).c 0 6 rfl rfl; have ya7 := (H.out.here ha).c 0 7 rfl rfl; have ya8 := (H.out.here ha).c 0 8 rfl rfl; have ya9 := (H.out.here ha).c 0 9 rfl rfl)
                          | (go_at_call_of 44 (Value.agg #[.string ⟨m.share.n.toArray⟩, .string ⟨m.share.d.toArray⟩]); refine (HS2.out _ (H.out.here ha).pw).mono ?_; rintro e w3 ⟨rfl, hb3⟩; have hbb : Below w1.heap.size w1 w3 := ha.trans (hb3.mono ha.size); have yb4 := (H.out.here hbb).c 0 4 rfl rfl; have yb5 := (H.out.here hbb).c 0 5 rfl rfl; have yb6 := (H.out.here hbb).c 0 6 rfl rfl; have yb7 := (H.out.here hbb).c 0 7 rfl rfl; have yb8 := (H.out.here hbb).c 0 8 rfl rfl; have yb9 := (H.out.here hbb).c 0 9 rfl rfl)
                          | (go_at_call 46; refine (HO1.out _ (H.out.here hbb).pw).mono ?_; rintro e w4 ⟨rfl, hb4⟩; have hcc : Below w1.heap.size w1 w4 := hbb.trans (hb4.mono hbb.size); have yc4 := (H.out.here hcc).c 0 4 rfl rfl; have yc5 := (H.out.here hcc).c 0 5 rfl rfl; have yc6 := (H.out.here hcc).c 0 6 rfl rfl; have yc7 := (H.out.here hcc).c 0 7 rfl rfl; have yc8 := (H.out.here hcc).c 0 8 rfl rfl; have yc9 := (H.out.here hcc).c 0 9 rfl rfl)
                          | (go_at_call 45; refine (HCM.out _ (H.out.here hcc).po).mono ?_; rintro e w5 ⟨rfl, hb5⟩; have hdd : Below w1.heap.size w1 w5 := hcc.trans (hb5.mono hcc.size); have yd4 := (H.out.here hdd).c 0 4 rfl rfl; have yd5 := (H.out.here hdd).c 0 5 rfl rfl; have yd6 := (H.out.here hdd).c 0 6 rfl rfl; have yd7 := (H.out.here hdd).c 0 7 rfl rfl; have yd8 := (H.out.here hdd).c 0 8 rfl rfl; have yd9 := (H.out.here hdd).c 0 9 rfl rfl)
                          | (go_at_call_of 44 (Value.agg #[.string ⟨m.price.n.toArray⟩, .string ⟨m.price.d.toArray⟩]); refine (HS3.out _ (H.out.here hdd).pw).mono ?_; rintro e w6 ⟨rfl, hb6⟩; have hee : Below w1.heap.size w1 w6 := hdd.trans (hb6.mono hdd.size); have ye4 := (H.out.here hee).c 0 4 rfl rfl; have ye5 := (H.out.here hee).c 0 5 rfl rfl; have ye6 := (H.out.here hee).c 0 6 rfl rfl; have ye7 := (H.out.here hee).c 0 7 rfl rfl; have ye8 := (H.out.here hee).c 0 8 rfl rfl; have ye9 := (H.out.here hee).c 0 9 rfl rfl)
                        ))
                      | fail
                      all_goals
                        go_wp2_with fail
                        go_meet
                        exact ⟨by simp, H.out.here hbb⟩
                    · obtain rfl : r2 = false := by rw [← E2.out]; rfl
                      rcases V3.out with rfl | rfl | rfl
                      · obtain rfl : r3 = false := by rw [← E3.out]; rfl
                        rcases V4.out with rfl | rfl | rfl
                        · obtain rfl : r4 = true := by rw [← E4.out]; rfl
                          first
                          | (go_region_with
                            (first
                              | (go_at_call_of 44 (Value.agg #[.string ⟨m.ratio.n.toArray⟩, .string ⟨m.ratio.d.toArray⟩]); refine (HS1.out _ H.out.drew.pw).mono ?_; rintro e w2 ⟨rfl, hb2⟩; have ha : Below w1.heap.size w1 w2 := (Below.refl _ w1).drew.trans hb2; have ya4 := (H.out.here ha).c 0 4 rfl rfl; have ya5 := (H.out.here ha).c 0 5 rfl rfl; have ya6 := (H.out.here ha).c 0 6 rfl rfl; have ya7 := (H.out.here ha).c 0 7 rfl rfl; have ya8 := (H.out.here ha).c 0 8 rfl rfl; have ya9 := (H.out.here ha).c 0 9 rfl rfl)
                              | (go_at_call_of 44 (Value.agg #[.string ⟨m.share.n.toArray⟩, .string ⟨m.share.d.toArray⟩]); refine (HS2.out _ (H.out.here ha).pw).mono ?_; rintro e w3 ⟨rfl, hb3⟩; have hbb : Below w1.heap.size w1 w3 := ha.trans (hb3.mono ha.size); have yb4 := (H.out.here hbb).c 0 4 rfl rfl; have yb5 := (H.out.here hbb).c 0 5 rfl rfl; have yb6 := (H.out.here hbb).c 0 6 rfl rfl; have yb7 := (H.out.here hbb).c 0 7 rfl rfl; have yb8 := (H.out.here hbb).c 0 8 rfl rfl; have yb9 := (H.out.here hbb).c 0 9 rfl rfl)
                              | (go_at_call 46; refine (HO1.out _ (H.out.here hbb).pw).mono ?_; rintro e w4 ⟨rfl, hb4⟩; have hcc : Below w1.heap.size w1 w4 := hbb.trans (hb4.mono hbb.size); have yc4 := (H.out.here hcc).c 0 4 rfl rfl; have yc5 := (H.out.here hcc).c 0 5 rfl rfl; have yc6 := (H.out.here hcc).c 0 6 rfl rfl; have yc7 := (H.out.here hcc).c 0 7 rfl rfl; have yc8 := (H.out.here hcc).c 0 8 rfl rfl; have yc9 := (H.out.here hcc).c 0 9 rfl rfl)
                              | (go_at_call 45; refine (HCM.out _ (H.out.here hcc).po).mono ?_; rintro e w5 ⟨rfl, hb5⟩; have hdd : Below w1.heap.size w1 w5 := hcc.trans (hb5.mono hcc.size); have yd4 := (H.out.here hdd).c 0 4 rfl rfl; have yd5 := (H.out.here hdd).c 0 5 rfl rfl; have yd6 := (H.out.here hdd).c 0 6 rfl rfl; have yd7 := (H.out.here hdd).c 0 7 rfl rfl; have yd8 := (H.out.here hdd).c 0 8 rfl rfl; have yd9 := (H.out.here hdd).c 0 9 rfl rfl)
                              | (go_at_call_of 44 (Value.agg #[.string ⟨m.price.n.toArray⟩, .string ⟨m.price.d.toArray⟩]); refine (HS3.out _ (H.out.here hdd).pw).mono ?_; rintro e w6 ⟨rfl, hb6⟩; have hee : Below w1.heap.size w1 w6 := hdd.trans (hb6.mono hdd.size); have ye4 := (H.out.here hee).c 0 4 rfl rfl; have ye5 := (H.out.here hee).c 0 5 rfl rfl; have ye6 := (H.out.here hee).c 0 6 rfl rfl; have ye7 := (H.out.here hee).c 0 7 rfl rfl; have ye8 := (H.out.here hee).c 0 8 rfl rfl; have ye9 := (H.out.here hee).c 0 9 rfl rfl)
                            ))
                          | fail
                          all_goals
                            go_wp2_with fail
                            go_meet
                            exact ⟨by simp, H.out.here hee⟩
                        · obtain rfl : r4 = false := by rw [← E4.out]; rfl
                          first
                          | (go_region_held3 (fun w' => w'.cell? ⟨w.heap.size, 4, none⟩ = some (.string ⟨m.ratio.n.toArray⟩) ∧ w'.cell? ⟨w.heap.size, 5, none⟩ = some (.string ⟨m.ratio.d.toArray⟩) ∧ w'.cell? ⟨w.heap.size, 6, none⟩ = some (.string ⟨m.share.n.toArray⟩) ∧ w'.cell? ⟨w.heap.size, 7, none⟩ = some (.string ⟨m.share.d.toArray⟩) ∧ w'.cell? ⟨w.heap.size, 8, none⟩ = some (.string ⟨m.price.n.toArray⟩) ∧ w'.cell? ⟨w.heap.size, 9, none⟩ = some (.string ⟨m.price.d.toArray⟩)) (first | exact ka | exact kb | exact kc | exact kd | exact ke | go_keep)
                            (first
                              | (go_at_call_of 44 (Value.agg #[.string ⟨m.ratio.n.toArray⟩, .string ⟨m.ratio.d.toArray⟩]); refine (HS1.out _ H.out.drew.pw).mono ?_; rintro e w2 ⟨rfl, hb2⟩; have ha : Below w1.heap.size w1 w2 := (Below.refl _ w1).drew.trans hb2; have ka := And.intro ((H.out.here ha).c 0 4 rfl rfl) (And.intro ((H.out.here ha).c 0 5 rfl rfl) (And.intro ((H.out.here ha).c 0 6 rfl rfl) (And.intro ((H.out.here ha).c 0 7 rfl rfl) (And.intro ((H.out.here ha).c 0 8 rfl rfl) ((H.out.here ha).c 0 9 rfl rfl))))))
                              | (go_at_call_of 44 (Value.agg #[.string ⟨m.share.n.toArray⟩, .string ⟨m.share.d.toArray⟩]); refine (HS2.out _ (H.out.here ha).pw).mono ?_; rintro e w3 ⟨rfl, hb3⟩; have hbb : Below w1.heap.size w1 w3 := ha.trans (hb3.mono ha.size); have kb := And.intro ((H.out.here hbb).c 0 4 rfl rfl) (And.intro ((H.out.here hbb).c 0 5 rfl rfl) (And.intro ((H.out.here hbb).c 0 6 rfl rfl) (And.intro ((H.out.here hbb).c 0 7 rfl rfl) (And.intro ((H.out.here hbb).c 0 8 rfl rfl) ((H.out.here hbb).c 0 9 rfl rfl))))))
                              | (go_at_call 46; refine (HO1.out _ (H.out.here hbb).pw).mono ?_; rintro e w4 ⟨rfl, hb4⟩; have hcc : Below w1.heap.size w1 w4 := hbb.trans (hb4.mono hbb.size); have kc := And.intro ((H.out.here hcc).c 0 4 rfl rfl) (And.intro ((H.out.here hcc).c 0 5 rfl rfl) (And.intro ((H.out.here hcc).c 0 6 rfl rfl) (And.intro ((H.out.here hcc).c 0 7 rfl rfl) (And.intro ((H.out.here hcc).c 0 8 rfl rfl) ((H.out.here hcc).c 0 9 rfl rfl))))))
                              | (go_at_call 45; refine (HCM.out _ (H.out.here hcc).po).mono ?_; rintro e w5 ⟨rfl, hb5⟩; have hdd : Below w1.heap.size w1 w5 := hcc.trans (hb5.mono hcc.size); have kd := And.intro ((H.out.here hdd).c 0 4 rfl rfl) (And.intro ((H.out.here hdd).c 0 5 rfl rfl) (And.intro ((H.out.here hdd).c 0 6 rfl rfl) (And.intro ((H.out.here hdd).c 0 7 rfl rfl) (And.intro ((H.out.here hdd).c 0 8 rfl rfl) ((H.out.here hdd).c 0 9 rfl rfl))))))
                              | (go_at_call_of 44 (Value.agg #[.string ⟨m.price.n.toArray⟩, .string ⟨m.price.d.toArray⟩]); refine (HS3.out _ (H.out.here hdd).pw).mono ?_; rintro e w6 ⟨rfl, hb6⟩; have hee : Below w1.heap.size w1 w6 := hdd.trans (hb6.mono hdd.size); have ke := And.intro ((H.out.here hee).c 0 4 rfl rfl) (And.intro ((H.out.here hee).c 0 5 rfl rfl) (And.intro ((H.out.here hee).c 0 6 rfl rfl) (And.intro ((H.out.here hee).c 0 7 rfl rfl) (And.intro ((H.out.here hee).c 0 8 rfl rfl) ((H.out.here hee).c 0 9 rfl rfl))))))
                            ))
                          | fail
                          all_goals
                            go_wp2_with fail
                            go_meet
                            exact ⟨by simp, H.out.here hee⟩
                        · obtain rfl : r4 = false := by rw [← E4.out]; rfl
                          first
                          | (go_region_held3 (fun w' => w'.cell? ⟨w.heap.size, 4, none⟩ = some (.string ⟨m.ratio.n.toArray⟩) ∧ w'.cell? ⟨w.heap.size, 5, none⟩ = some (.string ⟨m.ratio.d.toArray⟩) ∧ w'.cell? ⟨w.heap.size, 6, none⟩ = some (.string ⟨m.share.n.toArray⟩) ∧ w'.cell? ⟨w.heap.size, 7, none⟩ = some (.string ⟨m.share.d.toArray⟩) ∧ w'.cell? ⟨w.heap.size, 8, none⟩ = some (.string ⟨m.price.n.toArray⟩) ∧ w'.cell? ⟨w.heap.size, 9, none⟩ = some (.string ⟨m.price.d.toArray⟩)) (first | exact ka | exact kb | exact kc | exact kd | exact ke | go_keep)
                            (first
                              | (go_at_call_of 44 (Value.agg #[.string ⟨m.ratio.n.toArray⟩, .string ⟨m.ratio.d.toArray⟩]); refine (HS1.out _ H.out.drew.pw).mono ?_; rintro e w2 ⟨rfl, hb2⟩; have ha : Below w1.heap.size w1 w2 := (Below.refl _ w1).drew.trans hb2; have ka := And.intro ((H.out.here ha).c 0 4 rfl rfl) (And.intro ((H.out.here ha).c 0 5 rfl rfl) (And.intro ((H.out.here ha).c 0 6 rfl rfl) (And.intro ((H.out.here ha).c 0 7 rfl rfl) (And.intro ((H.out.here ha).c 0 8 rfl rfl) ((H.out.here ha).c 0 9 rfl rfl))))))
                              | (go_at_call_of 44 (Value.agg #[.string ⟨m.share.n.toArray⟩, .string ⟨m.share.d.toArray⟩]); refine (HS2.out _ (H.out.here ha).pw).mono ?_; rintro e w3 ⟨rfl, hb3⟩; have hbb : Below w1.heap.size w1 w3 := ha.trans (hb3.mono ha.size); have kb := And.intro ((H.out.here hbb).c 0 4 rfl rfl) (And.intro ((H.out.here hbb).c 0 5 rfl rfl) (And.intro ((H.out.here hbb).c 0 6 rfl rfl) (And.intro ((H.out.here hbb).c 0 7 rfl rfl) (And.intro ((H.out.here hbb).c 0 8 rfl rfl) ((H.out.here hbb).c 0 9 rfl rfl))))))
                              | (go_at_call 46; refine (HO1.out _ (H.out.here hbb).pw).mono ?_; rintro e w4 ⟨rfl, hb4⟩; have hcc : Below w1.heap.size w1 w4 := hbb.trans (hb4.mono hbb.size); have kc := And.intro ((H.out.here hcc).c 0 4 rfl rfl) (And.intro ((H.out.here hcc).c 0 5 rfl rfl) (And.intro ((H.out.here hcc).c 0 6 rfl rfl) (And.intro ((H.out.here hcc).c 0 7 rfl rfl) (And.intro ((H.out.here hcc).c 0 8 rfl rfl) ((H.out.here hcc).c 0 9 rfl rfl))))))
                              | (go_at_call 45; refine (HCM.out _ (H.out.here hcc).po).mono ?_; rintro e w5 ⟨rfl, hb5⟩; have hdd : Below w1.heap.size w1 w5 := hcc.trans (hb5.mono hcc.size); have kd := And.intro ((H.out.here hdd).c 0 4 rfl rfl) (And.intro ((H.out.here hdd).c 0 5 rfl rfl) (And.intro ((H.out.here hdd).c 0 6 rfl rfl) (And.intro ((H.out.here hdd).c 0 7 rfl rfl) (And.intro ((H.out.here hdd).c 0 8 rfl rfl) ((H.out.here hdd).c 0 9 rfl rfl))))))
                              | (go_at_call_of 44 (Value.agg #[.string ⟨m.price.n.toArray⟩, .string ⟨m.price.d.toArray⟩]); refine (HS3.out _ (H.out.here hdd).pw).mono ?_; rintro e w6 ⟨rfl, hb6⟩; have hee : Below w1.heap.size w1 w6 := hdd.trans (hb6.mono hdd.size); have ke := And.intro ((H.out.here hee).c 0 4 rfl rfl) (And.intro ((H.out.here hee).c 0 5 rfl rfl) (And.intro ((H.out.here hee).c 0 6 rfl rfl) (And.intro ((H.out.here hee).c 0 7 rfl rfl) (And.intro ((H.out.here hee).c 0 8 rfl rfl) ((H.out.here hee).c 0 9 rfl rfl))))))
                            ))
                          | fail
                          all_goals
                            go_wp2_with fail
                            go_meet
                            exact ⟨by simp, H.out.here hee⟩
                      · obtain rfl : r3 = false := by rw [← E3.out]; rfl
                        rcases V4.out with rfl | rfl | rfl
                        · obtain rfl : r4 = true := by rw [← E4.out]; rfl
                          first
                          | (go_region_with
                            (first
                              | (go_at_call_of 44 (Value.agg #[.string ⟨m.ratio.n.toArray⟩, .string ⟨m.ratio.d.toArray⟩]); refine (HS1.out _ H.out.drew.pw).mono ?_; rintro e w2 ⟨rfl, hb2⟩; have ha : Below w1.heap.size w1 w2 := (Below.refl _ w1).drew.trans hb2; have ya4 := (H.out.here ha).c 0 4 rfl rfl; have ya5 := (H.out.here ha).c 0 5 rfl rfl; have ya6 := (H.out.here ha).c 0 6 rfl rfl; have ya7 := (H.out.here ha).c 0 7 rfl rfl; have ya8 := (H.out.here ha).c 0 8 rfl rfl; have ya9 := (H.out.here ha).c 0 9 rfl rfl)
                              | (go_at_call_of 44 (Value.agg #[.string ⟨m.share.n.toArray⟩, .string ⟨m.share.d.toArray⟩]); refine (HS2.out _ (H.out.here ha).pw).mono ?_; rintro e w3 ⟨rfl, hb3⟩; have hbb : Below w1.heap.size w1 w3 := ha.trans (hb3.mono ha.size); have yb4 := (H.out.here hbb).c 0 4 rfl rfl; have yb5 := (H.out.here hbb).c 0 5 rfl rfl; have yb6 := (H.out.here hbb).c 0 6 rfl rfl; have yb7 := (H.out.here hbb).c 0 7 rfl rfl; have yb8 := (H.out.here hbb).c 0 8 rfl rfl; have yb9 := (H.out.here hbb).c 0 9 rfl rfl)
                              | (go_at_call 46; refine (HO1.out _ (H.out.here hbb).pw).mono ?_; rintro e w4 ⟨rfl, hb4⟩; have hcc : Below w1.heap.size w1 w4 := hbb.trans (hb4.mono hbb.size); have yc4 := (H.out.here hcc).c 0 4 rfl rfl; have yc5 := (H.out.here hcc).c 0 5 rfl rfl; have yc6 := (H.out.here hcc).c 0 6 rfl rfl; have yc7 := (H.out.here hcc).c 0 7 rfl rfl; have yc8 := (H.out.here hcc).c 0 8 rfl rfl; have yc9 := (H.out.here hcc).c 0 9 rfl rfl)
                              | (go_at_call 45; refine (HCM.out _ (H.out.here hcc).po).mono ?_; rintro e w5 ⟨rfl, hb5⟩; have hdd : Below w1.heap.size w1 w5 := hcc.trans (hb5.mono hcc.size); have yd4 := (H.out.here hdd).c 0 4 rfl rfl; have yd5 := (H.out.here hdd).c 0 5 rfl rfl; have yd6 := (H.out.here hdd).c 0 6 rfl rfl; have yd7 := (H.out.here hdd).c 0 7 rfl rfl; have yd8 := (H.out.here hdd).c 0 8 rfl rfl; have yd9 := (H.out.here hdd).c 0 9 rfl rfl)
                              | (go_at_call_of 44 (Value.agg #[.string ⟨m.price.n.toArray⟩, .string ⟨m.price.d.toArray⟩]); refine (HS3.out _ (H.out.here hdd).pw).mono ?_; rintro e w6 ⟨rfl, hb6⟩; have hee : Below w1.heap.size w1 w6 := hdd.trans (hb6.mono hdd.size); have ye4 := (H.out.here hee).c 0 4 rfl rfl; have ye5 := (H.out.here hee).c 0 5 rfl rfl; have ye6 := (H.out.here hee).c 0 6 rfl rfl; have ye7 := (H.out.here hee).c 0 7 rfl rfl; have ye8 := (H.out.here hee).c 0 8 rfl rfl; have ye9 := (H.out.here hee).c 0 9 rfl rfl)
                            ))
                          | fail
                          all_goals
                            go_wp2_with fail
                            go_meet
                            exact ⟨by simp, H.out.here hee⟩
                        · obtain rfl : r4 = false := by rw [← E4.out]; rfl
                          first
                          | (go_region_held3 (fun w' => w'.cell? ⟨w.heap.size, 4, none⟩ = some (.string ⟨m.ratio.n.toArray⟩) ∧ w'.cell? ⟨w.heap.size, 5, none⟩ = some (.string ⟨m.ratio.d.toArray⟩) ∧ w'.cell? ⟨w.heap.size, 6, none⟩ = some (.string ⟨m.share.n.toArray⟩) ∧ w'.cell? ⟨w.heap.size, 7, none⟩ = some (.string ⟨m.share.d.toArray⟩) ∧ w'.cell? ⟨w.heap.size, 8, none⟩ = some (.string ⟨m.price.n.toArray⟩) ∧ w'.cell? ⟨w.heap.size, 9, none⟩ = some (.string ⟨m.price.d.toArray⟩)) (first | exact ka | exact kb | exact kc | exact kd | exact ke | go_keep)
                            (first
                              | (go_at_call_of 44 (Value.agg #[.string ⟨m.ratio.n.toArray⟩, .string ⟨m.ratio.d.toArray⟩]); refine (HS1.out _ H.out.drew.pw).mono ?_; rintro e w2 ⟨rfl, hb2⟩; have ha : Below w1.heap.size w1 w2 := (Below.refl _ w1).drew.trans hb2; have ka := And.intro ((H.out.here ha).c 0 4 rfl rfl) (And.intro ((H.out.here ha).c 0 5 rfl rfl) (And.intro ((H.out.here ha).c 0 6 rfl rfl) (And.intro ((H.out.here ha).c 0 7 rfl rfl) (And.intro ((H.out.here ha).c 0 8 rfl rfl) ((H.out.here ha).c 0 9 rfl rfl))))))
                              | (go_at_call_of 44 (Value.agg #[.string ⟨m.share.n.toArray⟩, .string ⟨m.share.d.toArray⟩]); refine (HS2.out _ (H.out.here ha).pw).mono ?_; rintro e w3 ⟨rfl, hb3⟩; have hbb : Below w1.heap.size w1 w3 := ha.trans (hb3.mono ha.size); have kb := And.intro ((H.out.here hbb).c 0 4 rfl rfl) (And.intro ((H.out.here hbb).c 0 5 rfl rfl) (And.intro ((H.out.here hbb).c 0 6 rfl rfl) (And.intro ((H.out.here hbb).c 0 7 rfl rfl) (And.intro ((H.out.here hbb).c 0 8 rfl rfl) ((H.out.here hbb).c 0 9 rfl rfl))))))
                              | (go_at_call 46; refine (HO1.out _ (H.out.here hbb).pw).mono ?_; rintro e w4 ⟨rfl, hb4⟩; have hcc : Below w1.heap.size w1 w4 := hbb.trans (hb4.mono hbb.size); have kc := And.intro ((H.out.here hcc).c 0 4 rfl rfl) (And.intro ((H.out.here hcc).c 0 5 rfl rfl) (And.intro ((H.out.here hcc).c 0 6 rfl rfl) (And.intro ((H.out.here hcc).c 0 7 rfl rfl) (And.intro ((H.out.here hcc).c 0 8 rfl rfl) ((H.out.here hcc).c 0 9 rfl rfl))))))
                              | (go_at_call 45; refine (HCM.out _ (H.out.here hcc).po).mono ?_; rintro e w5 ⟨rfl, hb5⟩; have hdd : Below w1.heap.size w1 w5 := hcc.trans (hb5.mono hcc.size); have kd := And.intro ((H.out.here hdd).c 0 4 rfl rfl) (And.intro ((H.out.here hdd).c 0 5 rfl rfl) (And.intro ((H.out.here hdd).c 0 6 rfl rfl) (And.intro ((H.out.here hdd).c 0 7 rfl rfl) (And.intro ((H.out.here hdd).c 0 8 rfl rfl) ((H.out.here hdd).c 0 9 rfl rfl))))))
                              | (go_at_call_of 44 (Value.agg #[.string ⟨m.price.n.toArray⟩, .string ⟨m.price.d.toArray⟩]); refine (HS3.out _ (H.out.here hdd).pw).mono ?_; rintro e w6 ⟨rfl, hb6⟩; have hee : Below w1.heap.size w1 w6 := hdd.trans (hb6.mono hdd.size); have ke := And.intro ((H.out.here hee).c 0 4 rfl rfl) (And.intro ((H.out.here hee).c 0 5 rfl rfl) (And.intro ((H.out.here hee).c 0 6 rfl rfl) (And.intro ((H.out.here hee).c 0 7 rfl rfl) (And.intro ((H.out.here hee).c 0 8 rfl rfl) ((H.out.here hee).c 0 9 rfl rfl))))))
                            ))
                          | fail
                          all_goals
                            go_wp2_with fail
                            go_meet
                            exact ⟨by simp, H.out.here hee⟩
                        · obtain rfl : r4 = false := by rw [← E4.out]; rfl
                          first
                          | (go_region_held3 (fun w' => w'.cell? ⟨w.heap.size, 4, none⟩ = some (.string ⟨m.ratio.n.toArray⟩) ∧ w'.cell? ⟨w.heap.size, 5, none⟩ = some (.string ⟨m.ratio.d.toArray⟩) ∧ w'.cell? ⟨w.heap.size, 6, none⟩ = some (.string ⟨m.share.n.toArray⟩) ∧ w'.cell? ⟨w.heap.size, 7, none⟩ = some (.string ⟨m.share.d.toArray⟩) ∧ w'.cell? ⟨w.heap.size, 8, none⟩ = some (.string ⟨m.price.n.toArray⟩) ∧ w'.cell? ⟨w.heap.size, 9, none⟩ = some (.string ⟨m.price.d.toArray⟩)) (first | exact ka | exact kb | exact kc | exact kd | exact ke | go_keep)
                            (first
                              | (go_at_call_of 44 (Value.agg #[.string ⟨m.ratio.n.toArray⟩, .string ⟨m.ratio.d.toArray⟩]); refine (HS1.out _ H.out.drew.pw).mono ?_; rintro e w2 ⟨rfl, hb2⟩; have ha : Below w1.heap.size w1 w2 := (Below.refl _ w1).drew.trans hb2; have ka := And.intro ((H.out.here ha).c 0 4 rfl rfl) (And.intro ((H.out.here ha).c 0 5 rfl rfl) (And.intro ((H.out.here ha).c 0 6 rfl rfl) (And.intro ((H.out.here ha).c 0 7 rfl rfl) (And.intro ((H.out.here ha).c 0 8 rfl rfl) ((H.out.here ha).c 0 9 rfl rfl))))))
                              | (go_at_call_of 44 (Value.agg #[.string ⟨m.share.n.toArray⟩, .string ⟨m.share.d.toArray⟩]); refine (HS2.out _ (H.out.here ha).pw).mono ?_; rintro e w3 ⟨rfl, hb3⟩; have hbb : Below w1.heap.size w1 w3 := ha.trans (hb3.mono ha.size); have kb := And.intro ((H.out.here hbb).c 0 4 rfl rfl) (And.intro ((H.out.here hbb).c 0 5 rfl rfl) (And.intro ((H.out.here hbb).c 0 6 rfl rfl) (And.intro ((H.out.here hbb).c 0 7 rfl rfl) (And.intro ((H.out.here hbb).c 0 8 rfl rfl) ((H.out.here hbb).c 0 9 rfl rfl))))))
                              | (go_at_call 46; refine (HO1.out _ (H.out.here hbb).pw).mono ?_; rintro e w4 ⟨rfl, hb4⟩; have hcc : Below w1.heap.size w1 w4 := hbb.trans (hb4.mono hbb.size); have kc := And.intro ((H.out.here hcc).c 0 4 rfl rfl) (And.intro ((H.out.here hcc).c 0 5 rfl rfl) (And.intro ((H.out.here hcc).c 0 6 rfl rfl) (And.intro ((H.out.here hcc).c 0 7 rfl rfl) (And.intro ((H.out.here hcc).c 0 8 rfl rfl) ((H.out.here hcc).c 0 9 rfl rfl))))))
                              | (go_at_call 45; refine (HCM.out _ (H.out.here hcc).po).mono ?_; rintro e w5 ⟨rfl, hb5⟩; have hdd : Below w1.heap.size w1 w5 := hcc.trans (hb5.mono hcc.size); have kd := And.intro ((H.out.here hdd).c 0 4 rfl rfl) (And.intro ((H.out.here hdd).c 0 5 rfl rfl) (And.intro ((H.out.here hdd).c 0 6 rfl rfl) (And.intro ((H.out.here hdd).c 0 7 rfl rfl) (And.intro ((H.out.here hdd).c 0 8 rfl rfl) ((H.out.here hdd).c 0 9 rfl rfl))))))
                              | (go_at_call_of 44 (Value.agg #[.string ⟨m.price.n.toArray⟩, .string ⟨m.price.d.toArray⟩]); refine (HS3.out _ (H.out.here hdd).pw).mono ?_; rintro e w6 ⟨rfl, hb6⟩; have hee : Below w1.heap.size w1 w6 := hdd.trans (hb6.mono hdd.size); have ke := And.intro ((H.out.here hee).c 0 4 rfl rfl) (And.intro ((H.out.here hee).c 0 5 rfl rfl) (And.intro ((H.out.here hee).c 0 6 rfl rfl) (And.intro ((H.out.here hee).c 0 7 rfl rfl) (And.intro ((H.out.here hee).c 0 8 rfl rfl) ((H.out.here hee).c 0 9 rfl rfl))))))
                            ))
                          | fail
                          all_goals
                            go_wp2_with fail
                            go_meet
                            exact ⟨by simp, H.out.here hee⟩
                      · obtain rfl : r3 = true := by rw [← E3.out]; rfl
                        first
                        | (go_region_with
                          (first
                            | (go_at_call_of 44 (Value.agg #[.string ⟨m.ratio.n.toArray⟩, .string ⟨m.ratio.d.toArray⟩]); refine (HS1.out _ H.out.drew.pw).mono ?_; rintro e w2 ⟨rfl, hb2⟩; have ha : Below w1.heap.size w1 w2 := (Below.refl _ w1).drew.trans hb2; have ya4 := (H.out.here ha).c 0 4 rfl rfl; have ya5 := (H.out.here ha).c 0 5 rfl rfl; have ya6 := (H.out.here ha).c 0 6 rfl rfl; have ya7 := (H.out.here ha).c 0 7 rfl rfl; have ya8 := (H.out.here ha).c 0 8 rfl rfl; have ya9 := (H.out.here ha).c 0 9 rfl rfl)
                            | (go_at_call_of 44 (Value.agg #[.string ⟨m.share.n.toArray⟩, .string ⟨m.share.d.toArray⟩]); refine (HS2.out _ (H.out.here ha).pw).mono ?_; rintro e w3 ⟨rfl, hb3⟩; have hbb : Below w1.heap.size w1 w3 := ha.trans (hb3.mono ha.size); have yb4 := (H.out.here hbb).c 0 4 rfl rfl; have yb5 := (H.out.here hbb).c 0 5 rfl rfl; have yb6 := (H.out.here hbb).c 0 6 rfl rfl; have yb7 := (H.out.here hbb).c 0 7 rfl rfl; have yb8 := (H.out.here hbb).c 0 8 rfl rfl; have yb9 := (H.out.here hbb).c 0 9 rfl rfl)
                            | (go_at_call 46; refine (HO1.out _ (H.out.here hbb).pw).mono ?_; rintro e w4 ⟨rfl, hb4⟩; have hcc : Below w1.heap.size w1 w4 := hbb.trans (hb4.mono hbb.size); have yc4 := (H.out.here hcc).c 0 4 rfl rfl; have yc5 := (H.out.here hcc).c 0 5 rfl rfl; have yc6 := (H.out.here hcc).c 0 6 rfl rfl; have yc7 := (H.out.here hcc).c 0 7 rfl rfl; have yc8 := (H.out.here hcc).c 0 8 rfl rfl; have yc9 := (H.out.here hcc).c 0 9 rfl rfl)
                            | (go_at_call 45; refine (HCM.out _ (H.out.here hcc).po).mono ?_; rintro e w5 ⟨rfl, hb5⟩; have hdd : Below w1.heap.size w1 w5 := hcc.trans (hb5.mono hcc.size); have yd4 := (H.out.here hdd).c 0 4 rfl rfl; have yd5 := (H.out.here hdd).c 0 5 rfl rfl; have yd6 := (H.out.here hdd).c 0 6 rfl rfl; have yd7 := (H.out.here hdd).c 0 7 rfl rfl; have yd8 := (H.out.here hdd).c 0 8 rfl rfl; have yd9 := (H.out.here hdd).c 0 9 rfl rfl)
                            | (go_at_call_of 44 (Value.agg #[.string ⟨m.price.n.toArray⟩, .string ⟨m.price.d.toArray⟩]); refine (HS3.out _ (H.out.here hdd).pw).mono ?_; rintro e w6 ⟨rfl, hb6⟩; have hee : Below w1.heap.size w1 w6 := hdd.trans (hb6.mono hdd.size); have ye4 := (H.out.here hee).c 0 4 rfl rfl; have ye5 := (H.out.here hee).c 0 5 rfl rfl; have ye6 := (H.out.here hee).c 0 6 rfl rfl; have ye7 := (H.out.here hee).c 0 7 rfl rfl; have ye8 := (H.out.here hee).c 0 8 rfl rfl; have ye9 := (H.out.here hee).c 0 9 rfl rfl)
                          ))
                        | fail
                        all_goals
                          go_wp2_with fail
                          go_meet
                          exact ⟨by simp, H.out.here hdd⟩
                    · obtain rfl : r2 = false := by rw [← E2.out]; rfl
                      rcases V3.out with rfl | rfl | rfl
                      · obtain rfl : r3 = false := by rw [← E3.out]; rfl
                        rcases V4.out with rfl | rfl | rfl
                        · obtain rfl : r4 = true := by rw [← E4.out]; rfl
                          first
                          | (go_region_with
                            (first
                              | (go_at_call_of 44 (Value.agg #[.string ⟨m.ratio.n.toArray⟩, .string ⟨m.ratio.d.toArray⟩]); refine (HS1.out _ H.out.drew.pw).mono ?_; rintro e w2 ⟨rfl, hb2⟩; have ha : Below w1.heap.size w1 w2 := (Below.refl _ w1).drew.trans hb2; have ya4 := (H.out.here ha).c 0 4 rfl rfl; have ya5 := (H.out.here ha).c 0 5 rfl rfl; have ya6 := (H.out.here ha).c 0 6 rfl rfl; have ya7 := (H.out.here ha).c 0 7 rfl rfl; have ya8 := (H.out.here ha).c 0 8 rfl rfl; have ya9 := (H.out.here ha).c 0 9 rfl rfl)
                              | (go_at_call_of 44 (Value.agg #[.string ⟨m.share.n.toArray⟩, .string ⟨m.share.d.toArray⟩]); refine (HS2.out _ (H.out.here ha).pw).mono ?_; rintro e w3 ⟨rfl, hb3⟩; have hbb : Below w1.heap.size w1 w3 := ha.trans (hb3.mono ha.size); have yb4 := (H.out.here hbb).c 0 4 rfl rfl; have yb5 := (H.out.here hbb).c 0 5 rfl rfl; have yb6 := (H.out.here hbb).c 0 6 rfl rfl; have yb7 := (H.out.here hbb).c 0 7 rfl rfl; have yb8 := (H.out.here hbb).c 0 8 rfl rfl; have yb9 := (H.out.here hbb).c 0 9 rfl rfl)
                              | (go_at_call 46; refine (HO1.out _ (H.out.here hbb).pw).mono ?_; rintro e w4 ⟨rfl, hb4⟩; have hcc : Below w1.heap.size w1 w4 := hbb.trans (hb4.mono hbb.size); have yc4 := (H.out.here hcc).c 0 4 rfl rfl; have yc5 := (H.out.here hcc).c 0 5 rfl rfl; have yc6 := (H.out.here hcc).c 0 6 rfl rfl; have yc7 := (H.out.here hcc).c 0 7 rfl rfl; have yc8 := (H.out.here hcc).c 0 8 rfl rfl; have yc9 := (H.out.here hcc).c 0 9 rfl rfl)
                              | (go_at_call 45; refine (HCM.out _ (H.out.here hcc).po).mono ?_; rintro e w5 ⟨rfl, hb5⟩; have hdd : Below w1.heap.size w1 w5 := hcc.trans (hb5.mono hcc.size); have yd4 := (H.out.here hdd).c 0 4 rfl rfl; have yd5 := (H.out.here hdd).c 0 5 rfl rfl; have yd6 := (H.out.here hdd).c 0 6 rfl rfl; have yd7 := (H.out.here hdd).c 0 7 rfl rfl; have yd8 := (H.out.here hdd).c 0 8 rfl rfl; have yd9 := (H.out.here hdd).c 0 9 rfl rfl)
                              | (go_at_call_of 44 (Value.agg #[.string ⟨m.price.n.toArray⟩, .string ⟨m.price.d.toArray⟩]); refine (HS3.out _ (H.out.here hdd).pw).mono ?_; rintro e w6 ⟨rfl, hb6⟩; have hee : Below w1.heap.size w1 w6 := hdd.trans (hb6.mono hdd.size); have ye4 := (H.out.here hee).c 0 4 rfl rfl; have ye5 := (H.out.here hee).c 0 5 rfl rfl; have ye6 := (H.out.here hee).c 0 6 rfl rfl; have ye7 := (H.out.here hee).c 0 7 rfl rfl; have ye8 := (H.out.here hee).c 0 8 rfl rfl; have ye9 := (H.out.here hee).c 0 9 rfl rfl)
                            ))
                          | fail
                          all_goals
                            go_wp2_with fail
                            go_meet
                            exact ⟨by simp, H.out.here hee⟩
                        · obtain rfl : r4 = false := by rw [← E4.out]; rfl
                          first
                          | (go_region_held3 (fun w' => w'.cell? ⟨w.heap.size, 4, none⟩ = some (.string ⟨m.ratio.n.toArray⟩) ∧ w'.cell? ⟨w.heap.size, 5, none⟩ = some (.string ⟨m.ratio.d.toArray⟩) ∧ w'.cell? ⟨w.heap.size, 6, none⟩ = some (.string ⟨m.share.n.toArray⟩) ∧ w'.cell? ⟨w.heap.size, 7, none⟩ = some (.string ⟨m.share.d.toArray⟩) ∧ w'.cell? ⟨w.heap.size, 8, none⟩ = some (.string ⟨m.price.n.toArray⟩) ∧ w'.cell? ⟨w.heap.size, 9, none⟩ = some (.string ⟨m.price.d.toArray⟩)) (first | exact ka | exact kb | exact kc | exact kd | exact ke | go_keep)
                            (first
                              | (go_at_call_of 44 (Value.agg #[.string ⟨m.ratio.n.toArray⟩, .string ⟨m.ratio.d.toArray⟩]); refine (HS1.out _ H.out.drew.pw).mono ?_; rintro e w2 ⟨rfl, hb2⟩; have ha : Below w1.heap.size w1 w2 := (Below.refl _ w1).drew.trans hb2; have ka := And.intro ((H.out.here ha).c 0 4 rfl rfl) (And.intro ((H.out.here ha).c 0 5 rfl rfl) (And.intro ((H.out.here ha).c 0 6 rfl rfl) (And.intro ((H.out.here ha).c 0 7 rfl rfl) (And.intro ((H.out.here ha).c 0 8 rfl rfl) ((H.out.here ha).c 0 9 rfl rfl))))))
                              | (go_at_call_of 44 (Value.agg #[.string ⟨m.share.n.toArray⟩, .string ⟨m.share.d.toArray⟩]); refine (HS2.out _ (H.out.here ha).pw).mono ?_; rintro e w3 ⟨rfl, hb3⟩; have hbb : Below w1.heap.size w1 w3 := ha.trans (hb3.mono ha.size); have kb := And.intro ((H.out.here hbb).c 0 4 rfl rfl) (And.intro ((H.out.here hbb).c 0 5 rfl rfl) (And.intro ((H.out.here hbb).c 0 6 rfl rfl) (And.intro ((H.out.here hbb).c 0 7 rfl rfl) (And.intro ((H.out.here hbb).c 0 8 rfl rfl) ((H.out.here hbb).c 0 9 rfl rfl))))))
                              | (go_at_call 46; refine (HO1.out _ (H.out.here hbb).pw).mono ?_; rintro e w4 ⟨rfl, hb4⟩; have hcc : Below w1.heap.size w1 w4 := hbb.trans (hb4.mono hbb.size); have kc := And.intro ((H.out.here hcc).c 0 4 rfl rfl) (And.intro ((H.out.here hcc).c 0 5 rfl rfl) (And.intro ((H.out.here hcc).c 0 6 rfl rfl) (And.intro ((H.out.here hcc).c 0 7 rfl rfl) (And.intro ((H.out.here hcc).c 0 8 rfl rfl) ((H.out.here hcc).c 0 9 rfl rfl))))))
                              | (go_at_call 45; refine (HCM.out _ (H.out.here hcc).po).mono ?_; rintro e w5 ⟨rfl, hb5⟩; have hdd : Below w1.heap.size w1 w5 := hcc.trans (hb5.mono hcc.size); have kd := And.intro ((H.out.here hdd).c 0 4 rfl rfl) (And.intro ((H.out.here hdd).c 0 5 rfl rfl) (And.intro ((H.out.here hdd).c 0 6 rfl rfl) (And.intro ((H.out.here hdd).c 0 7 rfl rfl) (And.intro ((H.out.here hdd).c 0 8 rfl rfl) ((H.out.here hdd).c 0 9 rfl rfl))))))
                              | (go_at_call_of 44 (Value.agg #[.string ⟨m.price.n.toArray⟩, .string ⟨m.price.d.toArray⟩]); refine (HS3.out _ (H.out.here hdd).pw).mono ?_; rintro e w6 ⟨rfl, hb6⟩; have hee : Below w1.heap.size w1 w6 := hdd.trans (hb6.mono hdd.size); have ke := And.intro ((H.out.here hee).c 0 4 rfl rfl) (And.intro ((H.out.here hee).c 0 5 rfl rfl) (And.intro ((H.out.here hee).c 0 6 rfl rfl) (And.intro ((H.out.here hee).c 0 7 rfl rfl) (And.intro ((H.out.here hee).c 0 8 rfl rfl) ((H.out.here hee).c 0 9 rfl rfl))))))
                            ))
                          | fail
                          all_goals
                            go_wp2_with fail
                            go_meet
                            exact ⟨by simp, H.out.here hee⟩
                        · obtain rfl : r4 = false := by rw [← E4.out]; rfl
                          first
                          | (go_region_held3 (fun w' => w'.cell? ⟨w.heap.size, 4, none⟩ = some (.string ⟨m.ratio.n.toArray⟩) ∧ w'.cell? ⟨w.heap.size, 5, none⟩ = some (.string ⟨m.ratio.d.toArray⟩) ∧ w'.cell? ⟨w.heap.size, 6, none⟩ = some (.string ⟨m.share.n.toArray⟩) ∧ w'.cell? ⟨w.heap.size, 7, none⟩ = some (.string ⟨m.share.d.toArray⟩) ∧ w'.cell? ⟨w.heap.size, 8, none⟩ = some (.string ⟨m.price.n.toArray⟩) ∧ w'.cell? ⟨w.heap.size, 9, none⟩ = some (.string ⟨m.price.d.toArray⟩)) (first | exact ka | exact kb | exact kc | exact kd | exact ke | go_keep)
                            (first
                              | (go_at_call_of 44 (Value.agg #[.string ⟨m.ratio.n.toArray⟩, .string ⟨m.ratio.d.toArray⟩]); refine (HS1.out _ H.out.drew.pw).mono ?_; rintro e w2 ⟨rfl, hb2⟩; have ha : Below w1.heap.size w1 w2 := (Below.refl _ w1).drew.trans hb2; have ka := And.intro ((H.out.here ha).c 0 4 rfl rfl) (And.intro ((H.out.here ha).c 0 5 rfl rfl) (And.intro ((H.out.here ha).c 0 6 rfl rfl) (And.intro ((H.out.here ha).c 0 7 rfl rfl) (And.intro ((H.out.here ha).c 0 8 rfl rfl) ((H.out.here ha).c 0 9 rfl rfl))))))
                              | (go_at_call_of 44 (Value.agg #[.string ⟨m.share.n.toArray⟩, .string ⟨m.share.d.toArray⟩]); refine (HS2.out _ (H.out.here ha).pw).mono ?_; rintro e w3 ⟨rfl, hb3⟩; have hbb : Below w1.heap.size w1 w3 := ha.trans (hb3.mono ha.size); have kb := And.intro ((H.out.here hbb).c 0 4 rfl rfl) (And.intro ((H.out.here hbb).c 0 5 rfl rfl) (And.intro ((H.out.here hbb).c 0 6 rfl rfl) (And.intro ((H.out.here hbb).c 0 7 rfl rfl) (And.intro ((H.out.here hbb).c 0 8 rfl rfl) ((H.out.here hbb).c 0 9 rfl rfl))))))
                              | (go_at_call 46; refine (HO1.out _ (H.out.here hbb).pw).mono ?_; rintro e w4 ⟨rfl, hb4⟩; have hcc : Below w1.heap.size w1 w4 := hbb.trans (hb4.mono hbb.size); have kc := And.intro ((H.out.here hcc).c 0 4 rfl rfl) (And.intro ((H.out.here hcc).c 0 5 rfl rfl) (And.intro ((H.out.here hcc).c 0 6 rfl rfl) (And.intro ((H.out.here hcc).c 0 7 rfl rfl) (And.intro ((H.out.here hcc).c 0 8 rfl rfl) ((H.out.here hcc).c 0 9 rfl rfl))))))
                              | (go_at_call 45; refine (HCM.out _ (H.out.here hcc).po).mono ?_; rintro e w5 ⟨rfl, hb5⟩; have hdd : Below w1.heap.size w1 w5 := hcc.trans (hb5.mono hcc.size); have kd := And.intro ((H.out.here hdd).c 0 4 rfl rfl) (And.intro ((H.out.here hdd).c 0 5 rfl rfl) (And.intro ((H.out.here hdd).c 0 6 rfl rfl) (And.intro ((H.out.here hdd).c 0 7 rfl rfl) (And.intro ((H.out.here hdd).c 0 8 rfl rfl) ((H.out.here hdd).c 0 9 rfl rfl))))))
                              | (go_at_call_of 44 (Value.agg #[.string ⟨m.price.n.toArray⟩, .string ⟨m.price.d.toArray⟩]); refine (HS3.out _ (H.out.here hdd).pw).mono ?_; rintro e w6 ⟨rfl, hb6⟩; have hee : Below w1.heap.size w1 w6 := hdd.trans (hb6.mono hdd.size); have ke := And.intro ((H.out.here hee).c 0 4 rfl rfl) (And.intro ((H.out.here hee).c 0 5 rfl rfl) (And.intro ((H.out.here hee).c 0 6 rfl rfl) (And.intro ((H.out.here hee).c 0 7 rfl rfl) (And.intro ((H.out.here hee).c 0 8 rfl rfl) ((H.out.here hee).c 0 9 rfl rfl))))))
                            ))
                          | fail
                          all_goals
                            go_wp2_with fail
                            go_meet
                            exact ⟨by simp, H.out.here hee⟩
                      · obtain rfl : r3 = false := by rw [← E3.out]; rfl
                        rcases V4.out with rfl | rfl | rfl
                        · obtain rfl : r4 = true := by rw [← E4.out]; rfl
                          first
                          | (go_region_with
                            (first
                              | (go_at_call_of 44 (Value.agg #[.string ⟨m.ratio.n.toArray⟩, .string ⟨m.ratio.d.toArray⟩]); refine (HS1.out _ H.out.drew.pw).mono ?_; rintro e w2 ⟨rfl, hb2⟩; have ha : Below w1.heap.size w1 w2 := (Below.refl _ w1).drew.trans hb2; have ya4 := (H.out.here ha).c 0 4 rfl rfl; have ya5 := (H.out.here ha).c 0 5 rfl rfl; have ya6 := (H.out.here ha).c 0 6 rfl rfl; have ya7 := (H.out.here ha).c 0 7 rfl rfl; have ya8 := (H.out.here ha).c 0 8 rfl rfl; have ya9 := (H.out.here ha).c 0 9 rfl rfl)
                              | (go_at_call_of 44 (Value.agg #[.string ⟨m.share.n.toArray⟩, .string ⟨m.share.d.toArray⟩]); refine (HS2.out _ (H.out.here ha).pw).mono ?_; rintro e w3 ⟨rfl, hb3⟩; have hbb : Below w1.heap.size w1 w3 := ha.trans (hb3.mono ha.size); have yb4 := (H.out.here hbb).c 0 4 rfl rfl; have yb5 := (H.out.here hbb).c 0 5 rfl rfl; have yb6 := (H.out.here hbb).c 0 6 rfl rfl; have yb7 := (H.out.here hbb).c 0 7 rfl rfl; have yb8 := (H.out.here hbb).c 0 8 rfl rfl; have yb9 := (H.out.here hbb).c 0 9 rfl rfl)
                              | (go_at_call 46; refine (HO1.out _ (H.out.here hbb).pw).mono ?_; rintro e w4 ⟨rfl, hb4⟩; have hcc : Below w1.heap.size w1 w4 := hbb.trans (hb4.mono hbb.size); have yc4 := (H.out.here hcc).c 0 4 rfl rfl; have yc5 := (H.out.here hcc).c 0 5 rfl rfl; have yc6 := (H.out.here hcc).c 0 6 rfl rfl; have yc7 := (H.out.here hcc).c 0 7 rfl rfl; have yc8 := (H.out.here hcc).c 0 8 rfl rfl; have yc9 := (H.out.here hcc).c 0 9 rfl rfl)
                              | (go_at_call 45; refine (HCM.out _ (H.out.here hcc).po).mono ?_; rintro e w5 ⟨rfl, hb5⟩; have hdd : Below w1.heap.size w1 w5 := hcc.trans (hb5.mono hcc.size); have yd4 := (H.out.here hdd).c 0 4 rfl rfl; have yd5 := (H.out.here hdd).c 0 5 rfl rfl; have yd6 := (H.out.here hdd).c 0 6 rfl rfl; have yd7 := (H.out.here hdd).c 0 7 rfl rfl; have yd8 := (H.out.here hdd).c 0 8 rfl rfl; have yd9 := (H.out.here hdd).c 0 9 rfl rfl)
                              | (go_at_call_of 44 (Value.agg #[.string ⟨m.price.n.toArray⟩, .string ⟨m.price.d.toArray⟩]); refine (HS3.out _ (H.out.here hdd).pw).mono ?_; rintro e w6 ⟨rfl, hb6⟩; have hee : Below w1.heap.size w1 w6 := hdd.trans (hb6.mono hdd.size); have ye4 := (H.out.here hee).c 0 4 rfl rfl; have ye5 := (H.out.here hee).c 0 5 rfl rfl; have ye6 := (H.out.here hee).c 0 6 rfl rfl; have ye7 := (H.out.here hee).c 0 7 rfl rfl; have ye8 := (H.out.here hee).c 0 8 rfl rfl; have ye9 := (H.out.here hee).c 0 9 rfl rfl)
                            ))
                          | fail
                          all_goals
                            go_wp2_with fail
                            go_meet
                            exact ⟨by simp, H.out.here hee⟩
                        · obtain rfl : r4 = false := by rw [← E4.out]; rfl
                          first
                          | (go_region_held3 (fun w' => w'.cell? ⟨w.heap.size, 4, none⟩ = some (.string ⟨m.ratio.n.toArray⟩) ∧ w'.cell? ⟨w.heap.size, 5, none⟩ = some (.string ⟨m.ratio.d.toArray⟩) ∧ w'.cell? ⟨w.heap.size, 6, none⟩ = some (.string ⟨m.share.n.toArray⟩) ∧ w'.cell? ⟨w.heap.size, 7, none⟩ = some (.string ⟨m.share.d.toArray⟩) ∧ w'.cell? ⟨w.heap.size, 8, none⟩ = some (.string ⟨m.price.n.toArray⟩) ∧ w'.cell? ⟨w.heap.size, 9, none⟩ = some (.string ⟨m.price.d.toArray⟩)) (first | exact ka | exact kb | exact kc | exact kd | exact ke | go_keep)
                            (first
                              | (go_at_call_of 44 (Value.agg #[.string ⟨m.ratio.n.toArray⟩, .string ⟨m.ratio.d.toArray⟩]); refine (HS1.out _ H.out.drew.pw).mono ?_; rintro e w2 ⟨rfl, hb2⟩; have ha : Below w1.heap.size w1 w2 := (Below.refl _ w1).drew.trans hb2; have ka := And.intro ((H.out.here ha).c 0 4 rfl rfl) (And.intro ((H.out.here ha).c 0 5 rfl rfl) (And.intro ((H.out.here ha).c 0 6 rfl rfl) (And.intro ((H.out.here ha).c 0 7 rfl rfl) (And.intro ((H.out.here ha).c 0 8 rfl rfl) ((H.out.here ha).c 0 9 rfl rfl))))))
                              | (go_at_call_of 44 (Value.agg #[.string ⟨m.share.n.toArray⟩, .string ⟨m.share.d.toArray⟩]); refine (HS2.out _ (H.out.here ha).pw).mono ?_; rintro e w3 ⟨rfl, hb3⟩; have hbb : Below w1.heap.size w1 w3 := ha.trans (hb3.mono ha.size); have kb := And.intro ((H.out.here hbb).c 0 4 rfl rfl) (And.intro ((H.out.here hbb).c 0 5 rfl rfl) (And.intro ((H.out.here hbb).c 0 6 rfl rfl) (And.intro ((H.out.here hbb).c 0 7 rfl rfl) (And.intro ((H.out.here hbb).c 0 8 rfl rfl) ((H.out.here hbb).c 0 9 rfl rfl))))))
                              | (go_at_call 46; refine (HO1.out _ (H.out.here hbb).pw).mono ?_; rintro e w4 ⟨rfl, hb4⟩; have hcc : Below w1.heap.size w1 w4 := hbb.trans (hb4.mono hbb.size); have kc := And.intro ((H.out.here hcc).c 0 4 rfl rfl) (And.intro ((H.out.here hcc).c 0 5 rfl rfl) (And.intro ((H.out.here hcc).c 0 6 rfl rfl) (And.intro ((H.out.here hcc).c 0 7 rfl rfl) (And.intro ((H.out.here hcc).c 0 8 rfl rfl) ((H.out.here hcc).c 0 9 rfl rfl))))))
                              | (go_at_call 45; refine (HCM.out _ (H.out.here hcc).po).mono ?_; rintro e w5 ⟨rfl, hb5⟩; have hdd : Below w1.heap.size w1 w5 := hcc.trans (hb5.mono hcc.size); have kd := And.intro ((H.out.here hdd).c 0 4 rfl rfl) (And.intro ((H.out.here hdd).c 0 5 rfl rfl) (And.intro ((H.out.here hdd).c 0 6 rfl rfl) (And.intro ((H.out.here hdd).c 0 7 rfl rfl) (And.intro ((H.out.here hdd).c 0 8 rfl rfl) ((H.out.here hdd).c 0 9 rfl rfl))))))
                              | (go_at_call_of 44 (Value.agg #[.string ⟨m.price.n.toArray⟩, .string ⟨m.price.d.toArray⟩]); refine (HS3.out _ (H.out.here hdd).pw).mono ?_; rintro e w6 ⟨rfl, hb6⟩; have hee : Below w1.heap.size w1 w6 := hdd.trans (hb6.mono hdd.size); have ke := And.intro ((H.out.here hee).c 0 4 rfl rfl) (And.intro ((H.out.here hee).c 0 5 rfl rfl) (And.intro ((H.out.here hee).c 0 6 rfl rfl) (And.intro ((H.out.here hee).c 0 7 rfl rfl) (And.intro ((H.out.here hee).c 0 8 rfl rfl) ((H.out.here hee).c 0 9 rfl rfl))))))
                            ))
                          | fail
                          all_goals
                            go_wp2_with fail
                            go_meet
                            exact ⟨by simp, H.out.here hee⟩
                        · obtain rfl : r4 = false := by rw [← E4.out]; rfl
                          first
                          | (go_region_held3 (fun w' => w'.cell? ⟨w.heap.size, 4, none⟩ = some (.string ⟨m.ratio.n.toArray⟩) ∧ w'.cell? ⟨w.heap.size, 5, none⟩ = some (.string ⟨m.ratio.d.toArray⟩) ∧ w'.cell? ⟨w.heap.size, 6, none⟩ = some (.string ⟨m.share.n.toArray⟩) ∧ w'.cell? ⟨w.heap.size, 7, none⟩ = some (.string ⟨m.share.d.toArray⟩) ∧ w'.cell? ⟨w.heap.size, 8, none⟩ = some (.string ⟨m.price.n.toArray⟩) ∧ w'.cell? ⟨w.heap.size, 9, none⟩ = some (.string ⟨m.price.d.toArray⟩)) (first | exact ka | exact kb | exact kc | exact kd | exact ke | go_keep)
                            (first
                              | (go_at_call_of 44 (Value.agg #[.string ⟨m.ratio.n.toArray⟩, .string ⟨m.ratio.d.toArray⟩]); refine (HS1.out _ H.out.drew.pw).mono ?_; rintro e w2 ⟨rfl, hb2⟩; have ha : Below w1.heap.size w1 w2 := (Below.refl _ w1).drew.trans hb2; have ka := And.intro ((H.out.here ha).c 0 4 rfl rfl) (And.intro ((H.out.here ha).c 0 5 rfl rfl) (And.intro ((H.out.here ha).c 0 6 rfl rfl) (And.intro ((H.out.here ha).c 0 7 rfl rfl) (And.intro ((H.out.here ha).c 0 8 rfl rfl) ((H.out.here ha).c 0 9 rfl rfl))))))
                              | (go_at_call_of 44 (Value.agg #[.string ⟨m.share.n.toArray⟩, .string ⟨m.share.d.toArray⟩]); refine (HS2.out _ (H.out.here ha).pw).mono ?_; rintro e w3 ⟨rfl, hb3⟩; have hbb : Below w1.heap.size w1 w3 := ha.trans (hb3.mono ha.size); have kb := And.intro ((H.out.here hbb).c 0 4 rfl rfl) (And.intro ((H.out.here hbb).c 0 5 rfl rfl) (And.intro ((H.out.here hbb).c 0 6 rfl rfl) (And.intro ((H.out.here hbb).c 0 7 rfl rfl) (And.intro ((H.out.here hbb).c 0 8 rfl rfl) ((H.out.here hbb).c 0 9 rfl rfl))))))
                              | (go_at_call 46; refine (HO1.out _ (H.out.here hbb).pw).mono ?_; rintro e w4 ⟨rfl, hb4⟩; have hcc : Below w1.heap.size w1 w4 := hbb.trans (hb4.mono hbb.size); have kc := And.intro ((H.out.here hcc).c 0 4 rfl rfl) (And.intro ((H.out.here hcc).c 0 5 rfl rfl) (And.intro ((H.out.here hcc).c 0 6 rfl rfl) (And.intro ((H.out.here hcc).c 0 7 rfl rfl) (And.intro ((H.out.here hcc).c 0 8 rfl rfl) ((H.out.here hcc).c 0 9 rfl rfl))))))
                              | (go_at_call 45; refine (HCM.out _ (H.out.here hcc).po).mono ?_; rintro e w5 ⟨rfl, hb5⟩; have hdd : Below w1.heap.size w1 w5 := hcc.trans (hb5.mono hcc.size); have kd := And.intro ((H.out.here hdd).c 0 4 rfl rfl) (And.intro ((H.out.here hdd).c 0 5 rfl rfl) (And.intro ((H.out.here hdd).c 0 6 rfl rfl) (And.intro ((H.out.here hdd).c 0 7 rfl rfl) (And.intro ((H.out.here hdd).c 0 8 rfl rfl) ((H.out.here hdd).c 0 9 rfl rfl))))))
                              | (go_at_call_of 44 (Value.agg #[.string ⟨m.price.n.toArray⟩, .string ⟨m.price.d.toArray⟩]); refine (HS3.out _ (H.out.here hdd).pw).mono ?_; rintro e w6 ⟨rfl, hb6⟩; have hee : Below w1.heap.size w1 w6 := hdd.trans (hb6.mono hdd.size); have ke := And.intro ((H.out.here hee).c 0 4 rfl rfl) (And.intro ((H.out.here hee).c 0 5 rfl rfl) (And.intro ((H.out.here hee).c 0 6 rfl rfl) (And.intro ((H.out.here hee).c 0 7 rfl rfl) (And.intro ((H.out.here hee).c 0 8 rfl rfl) ((H.out.here hee).c 0 9 rfl rfl))))))
                            ))
                          | fail
                          all_goals
                            go_wp2_with fail
                            go_meet
                            exact ⟨by simp, H.out.here hee⟩
                      · obtain rfl : r3 = true := by rw [← E3.out]; rfl
                        first
                        | (go_region_with
                          (first
                            | (go_at_call_of 44 (Value.agg #[.string ⟨m.ratio.n.toArray⟩, .string ⟨m.ratio.d.toArray⟩]); refine (HS1.out _ H.out.drew.pw).mono ?_; rintro e w2 ⟨rfl, hb2⟩; have ha : Below w1.heap.size w1 w2 := (Below.refl _ w1).drew.trans hb2; have ya4 := (H.out.here ha).c 0 4 rfl rfl; have ya5 := (H.out.here ha).c 0 5 rfl rfl; have ya6 := (H.out.here ha).c 0 6 rfl rfl; have ya7 := (H.out.here ha).c 0 7 rfl rfl; have ya8 := (H.out.here ha).c 0 8 rfl rfl; have ya9 := (H.out.here ha).c 0 9 rfl rfl)
                            | (go_at_call_of 44 (Value.agg #[.string ⟨m.share.n.toArray⟩, .string ⟨m.share.d.toArray⟩]); refine (HS2.out _ (H.out.here ha).pw).mono ?_; rintro e w3 ⟨rfl, hb3⟩; have hbb : Below w1.heap.size w1 w3 := ha.trans (hb3.mono ha.size); have yb4 := (H.out.here hbb).c 0 4 rfl rfl; have yb5 := (H.out.here hbb).c 0 5 rfl rfl; have yb6 := (H.out.here hbb).c 0 6 rfl rfl; have yb7 := (H.out.here hbb).c 0 7 rfl rfl; have yb8 := (H.out.here hbb).c 0 8 rfl rfl; have yb9 := (H.out.here hbb).c 0 9 rfl rfl)
                            | (go_at_call 46; refine (HO1.out _ (H.out.here hbb).pw).mono ?_; rintro e w4 ⟨rfl, hb4⟩; have hcc : Below w1.heap.size w1 w4 := hbb.trans (hb4.mono hbb.size); have yc4 := (H.out.here hcc).c 0 4 rfl rfl; have yc5 := (H.out.here hcc).c 0 5 rfl rfl; have yc6 := (H.out.here hcc).c 0 6 rfl rfl; have yc7 := (H.out.here hcc).c 0 7 rfl rfl; have yc8 := (H.out.here hcc).c 0 8 rfl rfl; have yc9 := (H.out.here hcc).c 0 9 rfl rfl)
                            | (go_at_call 45; refine (HCM.out _ (H.out.here hcc).po).mono ?_; rintro e w5 ⟨rfl, hb5⟩; have hdd : Below w1.heap.size w1 w5 := hcc.trans (hb5.mono hcc.size); have yd4 := (H.out.here hdd).c 0 4 rfl rfl; have yd5 := (H.out.here hdd).c 0 5 rfl rfl; have yd6 := (H.out.here hdd).c 0 6 rfl rfl; have yd7 := (H.out.here hdd).c 0 7 rfl rfl; have yd8 := (H.out.here hdd).c 0 8 rfl rfl; have yd9 := (H.out.here hdd).c 0 9 rfl rfl)
                            | (go_at_call_of 44 (Value.agg #[.string ⟨m.price.n.toArray⟩, .string ⟨m.price.d.toArray⟩]); refine (HS3.out _ (H.out.here hdd).pw).mono ?_; rintro e w6 ⟨rfl, hb6⟩; have hee : Below w1.heap.size w1 w6 := hdd.trans (hb6.mono hdd.size); have ye4 := (H.out.here hee).c 0 4 rfl rfl; have ye5 := (H.out.here hee).c 0 5 rfl rfl; have ye6 := (H.out.here hee).c 0 6 rfl rfl; have ye7 := (H.out.here hee).c 0 7 rfl rfl; have ye8 := (H.out.here hee).c 0 8 rfl rfl; have ye9 := (H.out.here hee).c 0 9 rfl rfl)
                          ))
                        | fail
                        all_goals
                          go_wp2_with fail
                          go_meet
                          exact ⟨by simp, H.out.here hdd⟩
                case rest =>
                obtain ⟨rfl, HW⟩ := hcut
                clear x0 x1 x2 x3 x4 x5 x6 x7 x8 x9 x10
                clear H
                have H := HW
                clear HW
                have x0 := H.out.c 0 0 rfl rfl; have x1 := H.out.c 0 1 rfl rfl; have x2 := H.out.c 0 2 rfl rfl; have x3 := H.out.c 0 3 rfl rfl; have x4 := H.out.c 0 4 rfl rfl; have x5 := H.out.c 0 5 rfl rfl; have x6 := H.out.c 0 6 rfl rfl; have x7 := H.out.c 0 7 rfl rfl; have x8 := H.out.c 0 8 rfl rfl; have x9 := H.out.c 0 9 rfl rfl; have x10 := H.out.c 0 10 rfl rfl
                generalize hr : (r1 || r2 || r3 || r4) = rr at *
                clear hr
                cases rr with
                | true =>
                  go_wp2_with fail
                  first | go_ret | skip
                  rw [HPO.out]
                  exact ⟨ret_int (by simp), H.out.bl⟩
                | false =>
                  clear HWD HN1 HN2 HN3 HC1 HC2 HC3 K1 K2 K3 KD HS1 HS2 HS3 HCM E1 E2 E3 E4 V1 V2 V3 V4 x0 x1 x4 x5 x8 x9
                  generalize hkp : m.keep = kp at *
                  have HKP := Lib.hid hkp
                  clear hkp
                  cases kp with
                  | true =>
                    cases he : (m.other == m.inst) with
                    | true =>
                      go_wp2_with fail
                      first | go_ret | skip
                      rw [HPO.out]
                      exact ⟨ret_int (by simp [he]), H.out.bl⟩
                    | false =>
                      go_wp2_with fail
                      first
                      | (go_region_with (fail))
                      | fail
                      all_goals
                        go_wp2_with fail
                        first | go_ret | skip
                        rw [HPO.out]
                        exact ⟨ret_int (by simp [he]), (H.out.here (Below.refl _ _).drew).bl⟩
                  | false =>
                    cases hb1 : (m.share.n == one.n) <;> cases hb2 : (m.share.d == one.d)
                    all_goals
                      go_wp2_with fail
                      first
                      | (go_region_held3 (fun w' => w'.cell? ⟨w.heap.size, 6, none⟩ = some (.string ⟨m.share.n.toArray⟩) ∧ w'.cell? ⟨w.heap.size, 7, none⟩ = some (.string ⟨m.share.d.toArray⟩) ∧ w'.cell? ⟨w.heap.size, 10, none⟩ = some (.bool false)) (first | exact ka | go_keep)
                        (first
                          | (go_at_call 46; refine (HO1.out _ H.out.drew.pw).mono ?_; rintro e w4 ⟨rfl, hb4⟩; have ha : Below wc.heap.size wc w4 := (Below.refl _ wc).drew.trans hb4; have ka := And.intro ((H.out.here ha).c 0 6 rfl rfl) (And.intro ((H.out.here ha).c 0 7 rfl rfl) ((H.out.here ha).c 0 10 rfl rfl)))))
                      | fail
                      all_goals
                        go_wp2_with fail
                        first | go_ret | skip
                        rw [HPO.out]
                        exact ⟨ret_int (by simp [hb1, hb2]), (H.out.here ha).bl⟩
end Go.Proofs.YtpnncoinlopndaaGreatDoor

