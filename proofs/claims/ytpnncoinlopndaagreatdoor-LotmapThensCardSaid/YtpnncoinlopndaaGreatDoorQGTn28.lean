/- Merged texts: RF3, RF4, RNm, RMc. -/
import Derived.Test.YtpnncoinlopndaaGreatDoorQGTn27
import Derived.Test.YtpnncoinlopndaaGreatDoorQGTn7
import Derived.Test.YtpnncoinlopndaaGreatDoorQGTn22
import Derived.Test.YtpnncoinlopndaaGreatDoorQGTn14
import Derived.Test.YtpnncoinlopndaaGreatDoorThqGTn
import Derived.Test.YtpnncoinlopndaaGreatDoorQGTn16
namespace Go.Proofs.YtpnncoinlopndaaGreatDoor
open Go.RowKit Go.Shelf
theorem mul_txt_len {a b : List UInt8} {L : Nat} (ha : a.length ≤ L) (hb : b.length ≤ L) : (txtL (val a * val b)).length ≤ L + L + 1 := txtL_length (mul_lt_pow (val_lt' ha) (val_lt' hb))
theorem cmp_raw (x y : Fr) (hx : 0 < val x.d) (hy : 0 < val y.d) : sgnI (val (txtL (val x.n * val y.d)) - val (txtL (val y.n * val x.d))) = cmpR x.rat y.rat := by
  have e1 : x.rat = Rat.divInt (val x.n) (val x.d) := by unfold Fr.rat Fr.dv; rw [if_neg (by omega)]
  have e2 : y.rat = Rat.divInt (val y.n) (val y.d) := by unfold Fr.rat Fr.dv; rw [if_neg (by omega)]
  rw [e1, e2, cmpR_divInt _ _ hx hy, val_txtL, val_txtL]
theorem mul_raw (x y : Fr) (hx : 0 < val x.d) (hy : 0 < val y.d) : Rat.divInt (val (txtL (val x.n * val y.n))) (val (txtL (val x.d * val y.d))) = x.rat * y.rat := by
  have e1 : x.dv = val x.d := by unfold Fr.dv; rw [if_neg (by omega)]
  have e2 : y.dv = val y.d := by unfold Fr.dv; rw [if_neg (by omega)]
  rw [rat_mul, e1, e2, val_txtL, val_txtL]
set_option maxRecDepth 20000 in
set_option maxHeartbeats 1000000 in
theorem zMul_any (f h : Fr) (w : World) (hf : f.Sz 20000) (hh : h.Sz 20000) : Calls Tryz.prog 56 #[FrV f, FrV h] w (FracPost (frOf (f.rat * h.rat)) w) := by
  have HR1 := Lib.hid (fun W => zRaw_any f W (hf.more (by omega)))
  have HR2 := Lib.hid (fun W => zRaw_any h W (hh.more (by omega)))
  obtain ⟨fn, fd⟩ := f.raw_sz hf (by omega)
  obtain ⟨hn, hd⟩ := h.raw_sz hh (by omega)
  have fp := f.raw_pos
  have hp := h.raw_pos
  have HM1 := Lib.hid (fun W => rMul_any f.raw.n h.raw.n W (by omega) (by omega))
  have HM3 := Lib.hid (fun W => rMul_any f.raw.d h.raw.d W (by omega) (by omega))
  have HRD := Lib.hid (fun W => zReduced_any (txtL (val f.raw.n * val h.raw.n)) (txtL (val f.raw.d * val h.raw.d)) W (by have := mul_txt_len fn hn; omega) (by have := mul_txt_len fd hd; omega) (by rw [val_txtL]; exact Int.mul_pos fp hp))
  rw [mul_raw _ _ fp hp, f.raw_rat', h.raw_rat'] at HRD
  have HPO := Lib.hid (show FracPost (frOf (f.rat * h.rat)) w = fun e w' => e = .returned (FrV (frOf (f.rat * h.rat))) ∧ Below w.heap.size w w' from rfl)
  generalize FracPost (frOf (f.rat * h.rat)) w = post at *
  have H3 := Lib.hid (Fr3.new w f h)
  obtain ⟨x0, x1, y0, y1⟩ := H3.out.held
  generalize frOf (f.rat * h.rat) = res at *
  clear fn fd hn hd fp hp
  generalize f.raw = x at *
  generalize h.raw = y at *
  clear hf hh
  unfold FrV at *
  unfold S at *
  go_enter Tryz.func56, Tryz.ntmps56
  go_wp2_with fail
  generalize (((w.alloc (.cells #[.string ⟨f.n.toArray⟩, .string ⟨f.d.toArray⟩] 26)).alloc (.cells #[.string ⟨h.n.toArray⟩, .string ⟨h.d.toArray⟩] 26)).alloc (.cells #[.string ⟨#[]⟩, .string ⟨#[]⟩] 26)) = W0 at *
  refine (HR1.out _).mono ?_
  rintro e w1 ⟨rfl, hb1⟩
  unfold S
  have H4 := Lib.hid (H3.out.here hb1)
  clear x0 x1 y0 y1 HR1 H3
  obtain ⟨x0, x1, y0, y1⟩ := H4.out.held
  go_wp2_with fail
  refine (HR2.out _).mono ?_
  rintro e w2 ⟨rfl, hb2⟩
  unfold S
  have H5 := Lib.hid (H4.out.here hb2)
  clear x0 x1 y0 y1 HR2 H4 hb1 hb2
  go_wp2_with fail
  refine (HM1.out _).mono ?_
  rintro e w3 ⟨rfl, hb⟩
  try unfold S
  have H6 := Lib.hid (H5.out.here hb)
  clear hb H5
  go_wp2_with fail
  refine (HM3.out _).mono ?_
  rintro e w6 ⟨rfl, hb⟩
  try unfold S
  have H8b := Lib.hid (H6.out.here hb)
  clear hb H6
  go_wp2_with fail
  refine (HRD.out _).mono ?_
  rintro e w9 ⟨rfl, hb⟩
  unfold FrV S
  have H9 := Lib.hid (H8b.out.here hb)
  have z0 := H9.out.c.cells.1; have z1 := H9.out.c.cells.2; have f0 := H9.out.c.frozen 0; have f1 := H9.out.c.frozen 1
  go_wp2_with fail
  refine bodyPost_ret (v := .agg #[.string ⟨res.n.toArray⟩, .string ⟨res.d.toArray⟩]) (by simp [results, Tryz.results56, go_sem, z0, z1]) rfl ?_
  rw [HPO.out]
  exact ⟨rfl, (H9.out.bl.setCell (p := ⟨w.heap.size + 1 + 1, 0, none⟩) (by simp only; omega) _).setCell (p := ⟨w.heap.size + 1 + 1, 1, none⟩) (by simp only; omega) _⟩
set_option maxRecDepth 20000 in
set_option maxHeartbeats 1000000 in
theorem zCompare_any (f h : Fr) (w : World) (hf : f.Sz 20000) (hh : h.Sz 20000) : Calls Tryz.prog 50 #[FrV f, FrV h] w (CmpIPost (cmpR f.rat h.rat) w) := by
  have HR1 := Lib.hid (fun W => zRaw_any f W (hf.more (by omega)))
  have HR2 := Lib.hid (fun W => zRaw_any h W (hh.more (by omega)))
  obtain ⟨fn, fd⟩ := f.raw_sz hf (by omega)
  obtain ⟨hn, hd⟩ := h.raw_sz hh (by omega)
  have fp := f.raw_pos
  have hp := h.raw_pos
  have HM1 := Lib.hid (fun W => rMul_any f.raw.n h.raw.d W (by omega) (by omega))
  have HM3 := Lib.hid (fun W => rMul_any h.raw.n f.raw.d W (by omega) (by omega))
  have HCM := Lib.hid (fun W => rCompare_any (txtL (val f.raw.n * val h.raw.d)) (txtL (val h.raw.n * val f.raw.d)) W (by have := mul_txt_len fn hd; omega) (by have := mul_txt_len hn fd; omega))
  rw [cmp_raw _ _ fp hp, f.raw_rat', h.raw_rat'] at HCM
  have HPO := Lib.hid (show CmpIPost (cmpR f.rat h.rat) w = fun e w' => e = .returned (.int .i64 (cmpR f.rat h.rat)) ∧ Below w.heap.size w w' from rfl)
  generalize CmpIPost (cmpR f.rat h.rat) w = post at *
  have H3 := Lib.hid (Fr2.new w f h)
  obtain ⟨x0, x1, y0, y1⟩ := H3.out.held
  generalize cmpR f.rat h.rat = res at *
  clear fn fd hn hd fp hp
  generalize f.raw = x at *
  generalize h.raw = y at *
  clear hf hh
  unfold FrV at *
  unfold S at *
  go_enter Tryz.func50, Tryz.ntmps50
  go_wp2_with fail
  generalize ((w.alloc (.cells #[.string ⟨f.n.toArray⟩, .string ⟨f.d.toArray⟩] 26)).alloc (.cells #[.string ⟨h.n.toArray⟩, .string ⟨h.d.toArray⟩] 26)) = W0 at *
  refine (HR1.out _).mono ?_
  rintro e w1 ⟨rfl, hb1⟩
  unfold S
  have H4 := Lib.hid (H3.out.here hb1)
  clear x0 x1 y0 y1 HR1 H3
  obtain ⟨x0, x1, y0, y1⟩ := H4.out.held
  go_wp2_with fail
  refine (HR2.out _).mono ?_
  rintro e w2 ⟨rfl, hb2⟩
  unfold S
  have H5 := Lib.hid (H4.out.here hb2)
  clear x0 x1 y0 y1 HR2 H4 hb1 hb2
  go_wp2_with fail
  refine (HM1.out _).mono ?_
  rintro e w3 ⟨rfl, hb⟩
  try unfold S
  have H6 := Lib.hid (H5.out.here hb)
  clear hb H5
  go_wp2_with fail
  refine (HM3.out _).mono ?_
  rintro e w6 ⟨rfl, hb⟩
  try unfold S
  have H8b := Lib.hid (H6.out.here hb)
  clear hb H6
  go_wp2_with fail
  refine (HCM.out _).mono ?_
  rintro e w9 ⟨rfl, rfl⟩
  go_wp2_with fail
  first | go_ret | skip
  rw [HPO.out]
  exact ⟨rfl, H8b.out.bl⟩
end Go.Proofs.YtpnncoinlopndaaGreatDoor

namespace Go.Proofs.YtpnncoinlopndaaGreatDoor
open Go.RowKit Go.Shelf
set_option maxRecDepth 20000 in
set_option maxHeartbeats 1000000 in
theorem zOf_any (a : List UInt8) (w : World) (ha : a.length ≤ 50000) : Calls Tryz.prog 49 #[S a] w (FracPost (frOf ((val a : Int) : Rat)) w) := by
  have HO := Lib.hid (fun W => zOne_any W)
  have HRD := Lib.hid (fun W => zReduced_any a [49] W ha (by simp) (by decide))
  rw [show Rat.divInt (val a) (val [49]) = ((val a : Int) : Rat) by rw [show val [49] = 1 from by decide]; exact divInt_one _] at HRD
  have HPO := Lib.hid (show FracPost (frOf ((val a : Int) : Rat)) w = fun e w' => e = .returned (FrV (frOf ((val a : Int) : Rat))) ∧ Below w.heap.size w w' from rfl)
  generalize FracPost (frOf ((val a : Int) : Rat)) w = post at *
  generalize frOf ((val a : Int) : Rat) = res at *
  have HB := Lib.hid (show FrB (w.alloc (.cells #[.string ⟨#[]⟩, .string ⟨#[]⟩] 26)) w.heap.size Fr.zero from FrB.new w Fr.zero)
  have HBA := Lib.hid (show Below w.heap.size w (w.alloc (.cells #[.string ⟨#[]⟩, .string ⟨#[]⟩] 26)) from (Below.refl _ _).alloc (Nat.le_refl _) _)
  clear ha
  unfold FracPost FrV at *
  unfold S at *
  go_enter Tryz.func49, Tryz.ntmps49
  go_wp2_with fail
  generalize w.alloc (.cells #[.string ⟨#[]⟩, .string ⟨#[]⟩] 26) = W at *
  refine (HO.out _).mono ?_
  rintro e w1 ⟨rfl, rfl⟩
  go_wp2_with fail
  refine (HRD.out _).mono ?_
  rintro e w2 ⟨rfl, hb2⟩
  have H9 := Lib.hid (HB.out.here hb2)
  have HB9 := Lib.hid (HBA.out.trans (hb2.mono HBA.out.size))
  have z0 := H9.out.cells.1; have z1 := H9.out.cells.2; have f0 := H9.out.frozen 0; have f1 := H9.out.frozen 1
  go_wp2_with fail
  refine bodyPost_ret (v := .agg #[.string ⟨res.n.toArray⟩, .string ⟨res.d.toArray⟩]) (by simp [results, Tryz.results49, go_sem, z0, z1]) rfl ?_
  rw [HPO.out]
  exact ⟨rfl, (HB9.out.setCell (p := ⟨w.heap.size, 0, none⟩) (Nat.le_refl _) _).setCell (p := ⟨w.heap.size, 1, none⟩) (Nat.le_refl _) _⟩
end Go.Proofs.YtpnncoinlopndaaGreatDoor

namespace Go.Proofs.YtpnncoinlopndaaGreatDoor
open Go.RowKit Go.Shelf
set_option maxRecDepth 20000 in
set_option maxHeartbeats 1000000 in
theorem rName_any (s : List UInt8) (w : World) (hl : s.length ≤ maxLen) : Calls Tryz.prog 47 #[S s] w fun e w' => e = .returned (.bool (nameB s)) ∧ w = w' := by
  have HNB := Lib.hid (show nameB s = (decide (s ≠ []) && decide (s.length ≤ 16) && s.all nameC) from rfl)
  have hsz := str_size s
  have hm : s.length ≤ 9223372036854775807 := hl
  clear hl
  unfold S
  go_enter Tryz.func47, Tryz.ntmps47
  go_wp2
  go_loop [3, 4] (fun i _ => ∃ k : Nat, k ≤ s.length ∧ i = .int .i64 k ∧ Hid ((s.take k).all nameC = true)) (fun i _ => s.length - (intOf i).toNat)
  case atStart => exact ⟨0, Nat.zero_le _, rfl, by show _ = _; simp⟩
  case round =>
    obtain ⟨k, hk, rfl, HA⟩ := hrel
    by_cases hlt : k < s.length
    · obtain ⟨b, hb⟩ : ∃ b, s[k]? = some b := ⟨_, List.getElem?_eq_getElem hlt⟩
      have hks : k < (⟨s.toArray⟩ : ByteArray).size := by rw [str_size]; exact hlt
      have hbk : (⟨s.toArray⟩ : ByteArray)[k] = b := at_mk hb hks
      have HB := Lib.hid hb; clear hb
      have HIF := Lib.hid (nameC_iff b)
      clear HNB
      by_cases h95 : (b.toNat : Int) = 95
      · have hx : ((b.toNat : Int) != 95) = false := by simp [h95]
        go_wp2
        all_goals
          go_round
          case rel => exact ⟨k + 1, by omega, by go_num, all_take_succ HB.out HA.out (by rw [HIF.out]; omega)⟩
          case measure => simp [intOf]; omega
      · have hx : ((b.toNat : Int) != 95) = true := by simp [h95]
        go_wp2
        all_goals first
          | (go_round
             case rel => exact ⟨k + 1, by omega, by go_num, all_take_succ HB.out HA.out (by rw [HIF.out]; omega)⟩
             case measure => simp [intOf]; omega)
          | (go_ret
             exact ⟨ret_bool (nameB_bad HB.out (by rw [HIF.out]; omega)).symm, rfl⟩)
    · have HAL := Lib.hid (show s.all nameC = true by have := HA.out; rwa [List.take_of_length_le (by omega)] at this)
      rw [HAL.out] at HNB
      by_cases h1 : 1 ≤ s.length
      · have HNE := Lib.hid (show s ≠ [] by intro e; rw [e] at h1; simp at h1)
        rw [decide_eq_true HNE.out] at HNB
        by_cases h2 : s.length ≤ 16
        · rw [decide_eq_true h2] at HNB
          go_wp2
          go_ret
          exact ⟨ret_bool (by rw [HNB.out, decide_eq_true (show ((s.length : Nat) : Int) ≤ 16 by omega)]; rfl), rfl⟩
        · rw [decide_eq_false h2] at HNB
          go_wp2
          go_ret
          exact ⟨ret_bool (by rw [HNB.out, decide_eq_false (show ¬ ((s.length : Nat) : Int) ≤ 16 by omega)]; rfl), rfl⟩
      · have HNE := Lib.hid (show ¬ s ≠ [] by
          rw [Classical.not_not]
          exact List.eq_nil_of_length_eq_zero (by omega))
        rw [decide_eq_false HNE.out] at HNB
        go_wp2
        go_ret
        exact ⟨ret_bool (by rw [HNB.out]; rfl), rfl⟩
end Go.Proofs.YtpnncoinlopndaaGreatDoor

namespace Go.Proofs.YtpnncoinlopndaaGreatDoor
open Go.RowKit Go.Shelf
theorem chk_cases (f : Fr) : (decide f.ok = true ∧ chkF f = 0) ∨ (decide f.ok = false ∧ chkF f = 1) := by
  unfold chkF
  by_cases h : f.ok
  · exact .inl ⟨decide_eq_true h, if_pos h⟩
  · exact .inr ⟨decide_eq_false h, if_neg h⟩
set_option maxRecDepth 100000 in
set_option maxHeartbeats 4000000 in
theorem rmCheck_any (m : Mp) (hm : m.Max) (hr : m.ratio.Sz 15000) (hs : m.share.Sz 15000) (hz : m.price.Sz 15000) : Gives 11 #[MpV m] (.int .i64 (mpC m)) := by
  intro w hp
  have HPO := Lib.hid (mpC_bool m)
  have HDB := Lib.hid (show dayB m.day = (decide (-25567 ≤ m.day) && decide (m.day ≤ 84005)) from rfl)
  generalize mpC m = res at *
  have H := Lib.hid ((Kp.start hp).new w.heap.size rfl #[.string ⟨m.cause.toArray⟩, .int .i64 m.day, .string ⟨m.inst.toArray⟩, .string ⟨m.other.toArray⟩, .string ⟨m.ratio.n.toArray⟩, .string ⟨m.ratio.d.toArray⟩, .string ⟨m.share.n.toArray⟩, .string ⟨m.share.d.toArray⟩, .string ⟨m.price.n.toArray⟩, .string ⟨m.price.d.toArray⟩, .bool m.keep] 28)
  have HN1 := Lib.hid (fun W => rName_any m.cause W hm.cause); have HN2 := Lib.hid (fun W => rName_any m.inst W hm.inst); have HN3 := Lib.hid (fun W => rName_any m.other W hm.other)
  have HC1 := Lib.hid (fun W => zCheck_any m.ratio W (hr.more (by omega))); have HC2 := Lib.hid (fun W => zCheck_any m.share W (hs.more (by omega))); have HC3 := Lib.hid (fun W => zCheck_any m.price W (hz.more (by omega)))
  have K1 := Lib.hid (chk_cases m.ratio); have K2 := Lib.hid (chk_cases m.share); have K3 := Lib.hid (chk_cases m.price)
  have HO1 := Lib.hid (fun W => zOf_any [49] W (by simp))
  rw [show ((val [49] : Int) : Rat) = 1 by rw [show val [49] = 1 from by decide]; rfl] at HO1
  have hosz : (frOf 1).Sz 20000 := by rw [show (1 : Rat) = ((1 : Int) : Rat) from rfl, frOf_int]; exact ⟨by decide +kernel, by simp⟩
  have hzz : (⟨[], []⟩ : Fr).Sz 20000 := ⟨by simp, by simp⟩
  have HS1 := Lib.hid (fun W => zCompare_any m.ratio ⟨[], []⟩ W (hr.more (by omega)) hzz); have HS2 := Lib.hid (fun W => zCompare_any m.share ⟨[], []⟩ W (hs.more (by omega)) hzz); have HS4 := Lib.hid (fun W => zCompare_any m.price ⟨[], []⟩ W (hz.more (by omega)) hzz)
  have HS3 := Lib.hid (fun W => zCompare_any m.share (frOf 1) W (hs.more (by omega)) hosz)
  rw [show (⟨[], []⟩ : Fr).rat = 0 from rat_zero] at HS1 HS2 HS4
  rw [rat_frOf] at HS3
  have E1 := Lib.hid (cmpR_le m.ratio.rat 0); have E2 := Lib.hid (cmpR_lt m.share.rat 0); have E3 := Lib.hid (cmpR_gt m.share.rat 1); have E4 := Lib.hid (cmpR_lt m.price.rat 0)
  clear hosz hzz hm hp hr hs hz
  generalize cmpR m.ratio.rat 0 = z1 at *; generalize cmpR m.share.rat 0 = z2 at *; generalize cmpR m.share.rat 1 = z3 at *; generalize cmpR m.price.rat 0 = z4 at *
  generalize decide (m.ratio.rat ≤ 0) = r1 at *; generalize decide (m.share.rat < 0) = r2 at *; generalize decide (1 < m.share.rat) = r3 at *; generalize decide (m.price.rat < 0) = r4 at *
  generalize decide m.ratio.ok = o1 at *; generalize decide m.share.ok = o2 at *; generalize decide m.price.ok = o3 at *
  generalize chkF m.ratio = c1 at *; generalize chkF m.share = c2 at *; generalize chkF m.price = c3 at *
  generalize frOf 1 = one at *
  generalize nameB m.cause = n1 at *; generalize nameB m.inst = n2 at *; generalize nameB m.other = n3 at *
  unfold CmpIPost FracPost FrV at *
  unfold MpV S at *
  rw [mpA_eq]
  go_enter Tryz.func11, Tryz.ntmps11
  go_wp2_with fail
  generalize w.alloc (.cells #[.string ⟨m.cause.toArray⟩, .int .i64 m.day, .string ⟨m.inst.toArray⟩, .string ⟨m.other.toArray⟩, .string ⟨m.ratio.n.toArray⟩, .string ⟨m.ratio.d.toArray⟩, .string ⟨m.share.n.toArray⟩, .string ⟨m.share.d.toArray⟩, .string ⟨m.price.n.toArray⟩, .string ⟨m.price.d.toArray⟩, .bool m.keep] 28) = W0 at *
  obtain ⟨x0, x1, x2, x3, x4, x5, x6, x7, x8, x9, x10⟩ := z11 H.out (i := 0) rfl
  go_wp2_with fail
  refine (HN1.out _).mono ?_
  rintro e w1 ⟨rfl, rfl⟩
  cases n1 with
  | false =>
    go_wp2_with fail
    first | go_ret | skip
    exact ⟨ret_int (HPO.out.trans (by simp)).symm, H.out.bl⟩
  | true =>
  go_wp2_with fail
  refine (HN2.out _).mono ?_
  rintro e w1 ⟨rfl, rfl⟩
  cases n2 with
  | false =>
    go_wp2_with fail
    first | go_ret | skip
    exact ⟨ret_int (HPO.out.trans (by simp)).symm, H.out.bl⟩
  | true =>
  go_wp2_with fail
  refine (HN3.out _).mono ?_
  rintro e w1 ⟨rfl, rfl⟩
  cases n3 with
  | false =>
    go_wp2_with fail
    first | go_ret | skip
    exact ⟨ret_int (HPO.out.trans (by simp)).symm, H.out.bl⟩
  | true =>
  by_cases hd1 : m.day < -25567
  · rw [decide_eq_false (show ¬ -25567 ≤ m.day by omega)] at HDB
    rw [HDB.out] at HPO
    go_wp2_with fail
    first | go_ret | skip
    exact ⟨ret_int (HPO.out.trans (by simp)).symm, H.out.bl⟩
  by_cases hd2 : 84005 < m.day
  · rw [decide_eq_false (show ¬ m.day ≤ 84005 by omega)] at HDB
    rw [HDB.out] at HPO
    go_wp2_with fail
    first | go_ret | skip
    exact ⟨ret_int (HPO.out.trans (by simp)).symm, H.out.bl⟩
  rw [decide_eq_true (show -25567 ≤ m.day by omega), decide_eq_true (show m.day ≤ 84005 by omega)] at HDB
  rw [HDB.out] at HPO
  go_wp2_with fail
  refine (HC1.out _).mono ?_
  rintro e w1 ⟨rfl, hb⟩
  replace H := Lib.hid (H.out.here hb)
  clear x0 x1 x2 x3 x4 x5 x6 x7 x8 x9 x10 hb
  obtain ⟨x0, x1, x2, x3, x4, x5, x6, x7, x8, x9, x10⟩ := z11 H.out (i := 0) rfl
  rcases K1.out with ⟨rfl, rfl⟩ | ⟨rfl, rfl⟩
  rotate_left
  · go_wp2_with fail
    first | go_ret | skip
    exact ⟨ret_int (HPO.out.trans (by simp)).symm, H.out.bl⟩
  go_wp2_with fail
  refine (HC2.out _).mono ?_
  rintro e w1 ⟨rfl, hb⟩
  replace H := Lib.hid (H.out.here hb)
  clear x0 x1 x2 x3 x4 x5 x6 x7 x8 x9 x10 hb
  obtain ⟨x0, x1, x2, x3, x4, x5, x6, x7, x8, x9, x10⟩ := z11 H.out (i := 0) rfl
  rcases K2.out with ⟨rfl, rfl⟩ | ⟨rfl, rfl⟩
  rotate_left
  · go_wp2_with fail
    first | go_ret | skip
    exact ⟨ret_int (HPO.out.trans (by simp)).symm, H.out.bl⟩
  go_wp2_with fail
  refine (HC3.out _).mono ?_
  rintro e w1 ⟨rfl, hb⟩
  replace H := Lib.hid (H.out.here hb)
  clear x0 x1 x2 x3 x4 x5 x6 x7 x8 x9 x10 hb
  obtain ⟨x0, x1, x2, x3, x4, x5, x6, x7, x8, x9, x10⟩ := z11 H.out (i := 0) rfl
  rcases K3.out with ⟨rfl, rfl⟩ | ⟨rfl, rfl⟩
  rotate_left
  · go_wp2_with fail
    first | go_ret | skip
    exact ⟨ret_int (HPO.out.trans (by simp)).symm, H.out.bl⟩
  go_wp2_with fail
  refine (HO1.out _).mono ?_
  rintro e w1 ⟨rfl, hb⟩
  replace H := Lib.hid ((H.out.here hb).new w1.heap.size rfl #[.string ⟨one.n.toArray⟩, .string ⟨one.d.toArray⟩] 26)
  clear x0 x1 x2 x3 x4 x5 x6 x7 x8 x9 x10 hb
  go_upto_region 8 with (fail)
  generalize w1.alloc (.cells #[.string ⟨one.n.toArray⟩, .string ⟨one.d.toArray⟩] 26) = W1 at *
  obtain ⟨x0, x1, x2, x3, x4, x5, x6, x7, x8, x9, x10⟩ := z11 H.out (i := 1) rfl
  have q0 := H.out.c 0 0 rfl rfl; have q1 := H.out.c 0 1 rfl rfl
  go_wp2_with fail
  refine (HS1.out _).mono ?_
  rintro e w2 ⟨rfl, hb⟩
  replace H := Lib.hid (H.out.here hb)
  clear x0 x1 x2 x3 x4 x5 x6 x7 x8 x9 x10 hb q0 q1
  obtain ⟨x0, x1, x2, x3, x4, x5, x6, x7, x8, x9, x10⟩ := z11 H.out (i := 1) rfl
  have q0 := H.out.c 0 0 rfl rfl; have q1 := H.out.c 0 1 rfl rfl
  by_cases hz1 : z1 ≤ 0
  · rw [decide_eq_true hz1] at E1
    rw [← E1.out] at HPO
    go_wp2_with fail
    first | go_ret | skip
    exact ⟨ret_int (HPO.out.trans (by simp)).symm, H.out.bl⟩
  rw [decide_eq_false hz1] at E1
  rw [← E1.out] at HPO
  go_wp2_with fail
  refine (HS2.out _).mono ?_
  rintro e w2 ⟨rfl, hb⟩
  replace H := Lib.hid (H.out.here hb)
  clear x0 x1 x2 x3 x4 x5 x6 x7 x8 x9 x10 hb q0 q1
  obtain ⟨x0, x1, x2, x3, x4, x5, x6, x7, x8, x9, x10⟩ := z11 H.out (i := 1) rfl
  have q0 := H.out.c 0 0 rfl rfl; have q1 := H.out.c 0 1 rfl rfl
  by_cases hz2 : z2 < 0
  · rw [decide_eq_true hz2] at E2
    rw [← E2.out] at HPO
    go_wp2_with fail
    first | go_ret | skip
    exact ⟨ret_int (HPO.out.trans (by simp)).symm, H.out.bl⟩
  rw [decide_eq_false hz2] at E2
  rw [← E2.out] at HPO
  go_wp2_with fail
  refine (HS3.out _).mono ?_
  rintro e w2 ⟨rfl, hb⟩
  replace H := Lib.hid (H.out.here hb)
  clear x0 x1 x2 x3 x4 x5 x6 x7 x8 x9 x10 hb q0 q1
  obtain ⟨x0, x1, x2, x3, x4, x5, x6, x7, x8, x9, x10⟩ := z11 H.out (i := 1) rfl
  have q0 := H.out.c 0 0 rfl rfl; have q1 := H.out.c 0 1 rfl rfl
  by_cases hz3 : 0 < z3
  · rw [decide_eq_true hz3] at E3
    rw [← E3.out] at HPO
    go_wp2_with fail
    first | go_ret | skip
    exact ⟨ret_int (HPO.out.trans (by simp)).symm, H.out.bl⟩
  rw [decide_eq_false hz3] at E3
  rw [← E3.out] at HPO
  go_wp2_with fail
  refine (HS4.out _).mono ?_
  rintro e w2 ⟨rfl, hb⟩
  replace H := Lib.hid (H.out.here hb)
  clear x0 x1 x2 x3 x4 x5 x6 x7 x8 x9 x10 hb q0 q1
  obtain ⟨x0, x1, x2, x3, x4, x5, x6, x7, x8, x9, x10⟩ := z11 H.out (i := 1) rfl
  have q0 := H.out.c 0 0 rfl rfl; have q1 := H.out.c 0 1 rfl rfl
  by_cases hz4 : z4 < 0
  · rw [decide_eq_true hz4] at E4
    rw [← E4.out] at HPO
    go_wp2_with fail
    first | go_ret | skip
    exact ⟨ret_int (HPO.out.trans (by simp)).symm, H.out.bl⟩
  rw [decide_eq_false hz4] at E4
  rw [← E4.out] at HPO
  generalize m.keep = kp at *
  cases kp with
  | true =>
    cases ho : (m.other == m.inst) with
    | true =>
      rw [ho] at HPO
      go_wp2_with fail
      first | go_ret | skip
      exact ⟨ret_int (HPO.out.trans (by simp)).symm, H.out.bl⟩
    | false =>
      rw [ho] at HPO
      go_wp2_with fail
      first | go_ret | skip
      exact ⟨ret_int (HPO.out.trans (by simp)).symm, H.out.bl⟩
  | false =>
    cases hn : (m.share.n == one.n) <;> cases hd : (m.share.d == one.d)
    all_goals
      rw [hn, hd] at HPO
      go_wp2_with fail
      first | go_ret | skip
      exact ⟨ret_int (HPO.out.trans (by simp)).symm, H.out.bl⟩
end Go.Proofs.YtpnncoinlopndaaGreatDoor

