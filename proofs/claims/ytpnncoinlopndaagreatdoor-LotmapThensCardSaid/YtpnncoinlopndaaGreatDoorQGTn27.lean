/- Merged texts: R17, R18, R19, RF1, RF2. -/
import Derived.Test.YtpnncoinlopndaaGreatDoorQGTn26
import Derived.Test.YtpnncoinlopndaaGreatDoorQGTn3
import Derived.Test.YtpnncoinlopndaaGreatDoorQGTn6
import Derived.Test.YtpnncoinlopndaaGreatDoorQGTn7
namespace Go.Proofs.YtpnncoinlopndaaGreatDoor
open Go.RowKit Go.Shelf
structure RDv (w : World) (p : Nat) (na nb : Bool) (A1 A2 : Option Addr) (n1 c1 n2 c2 : Nat) (ys : List Nat) (wc : World) : Prop where
  x : RNumB wc p na A1 n1 c1
  y : RNumB wc (p + 1) nb A2 n2 c2
  g : Gi wc wc.heap.size A2 n2 ys
  bl : Below w.heap.size w wc
  le : w.heap.size ≤ p
theorem RDv.here {w : World} {p : Nat} {na nb : Bool} {A1 A2 : Option Addr} {n1 c1 n2 c2 : Nat} {ys : List Nat} {W W' : World} (h : RDv w p na nb A1 A2 n1 c1 n2 c2 ys W) (hb : Below W.heap.size W W') : RDv w p na nb A1 A2 n1 c1 n2 c2 ys W' :=
  ⟨h.x.here hb, h.y.here hb, h.g.here hb, h.bl.trans (hb.mono h.bl.size), h.le⟩
theorem RNumB.two (w : World) (a b : Bool) (A B : Option Addr) (n c m d : Nat) :
    RNumB ((w.alloc (.cells #[.bool a, .slice A n c] 126)).alloc (.cells #[.bool b, .slice B m d] 126)).drew w.heap.size a A n c ∧ RNumB ((w.alloc (.cells #[.bool a, .slice A n c] 126)).alloc (.cells #[.bool b, .slice B m d] 126)).drew (w.heap.size + 1) b B m d ∧
    Below w.heap.size w ((w.alloc (.cells #[.bool a, .slice A n c] 126)).alloc (.cells #[.bool b, .slice B m d] 126)).drew := by
  refine ⟨(RNumB.new w a A n c).alloc _, ?_, (((Below.refl _ _).alloc (Nat.le_refl _) _).alloc (by simp) _).drew⟩
  have := RNumB.new (w.alloc (.cells #[.bool a, .slice A n c] 126)) b B m d
  simp only [World.size_alloc] at this
  exact this
theorem sv_swap {na nb : Bool} {r : Nat} (h : na = nb ∨ r = 0) : sv nb r = sv na r := by
  rcases h with h | h
  · rw [h]
  · subst h; cases na <;> cases nb <;> rfl
theorem div_up {na nb ng : Bool} {q Q : Nat} (hne : na ≠ nb) (h : sv ng Q = sv (na != nb) q + sv true 1) : sv (na != nb) (q + 1) = sv ng Q ∧ Q = q + 1 := by
  have h2 : (na != nb) = true := by simpa using hne
  rw [h2] at h ⊢
  unfold sv at *
  cases ng <;> simp at * <;> omega
theorem mod_up {na nb ng : Bool} {r v R : Nat} (hne : na ≠ nb) (hr : r ≤ v) (h : sv ng R = sv na r + sv nb v) : sv nb (v - r) = sv ng R ∧ R ≤ v := by
  unfold sv at *
  cases na <;> cases nb <;> cases ng <;> simp at * <;> omega
set_option maxRecDepth 20000 in
set_option maxHeartbeats 4000000 in
theorem rDiv_long (a b : List UInt8) (w : World) (ha : a.length ≤ 100000) (hb : b.length ≤ 100000) (h0 : val b ≠ 0) (hk : ¬ ((shortL a).2 = true ∧ (shortL b).2 = true)) : Calls Tryz.prog 116 #[S a, S b] w (Div3Post (val a) (val b) w) := by
  have HSa := Lib.hid (rShort_any a w (by omega))
  have HSb := Lib.hid (rShort_any b w (by omega))
  have HRa := Lib.hid (rRead_any a w (by omega))
  have HRb := Lib.hid (fun W => rRead_any b W (by omega))
  obtain ⟨K, hK⟩ : ∃ K : Nat, K = 100000 := ⟨_, rfl⟩
  have HVA := Lib.hid (valD_small (show a.length ≤ K by omega))
  have HVB := Lib.hid (valD_small (show b.length ≤ K by omega))
  have HK := Lib.hid hK; clear hK
  have HSA := Lib.hid (sv_val a); have HSB := Lib.hid (sv_val b)
  have hv0 : 0 < valD (digL b).1 := Nat.pos_of_ne_zero (fun h => h0 ((valD_zero b).1 h))
  have HPO := Lib.hid (show Div3Post (val a) (val b) w = fun e w' => e = .returned (if val b = 0 then .tuple #[S [], S [], .int .i64 10] else .tuple #[S (txtL ((val a).fdiv (val b))), S (txtL ((val a).fmod (val b))), .int .i64 0]) ∧ Below w.heap.size w w' from rfl)
  rw [if_neg h0] at HPO
  have hn0 : (shortL b).2 = true → (shortL b).1 ≠ 0 := fun h => by rw [(short_facts b).2.2 h]; exact h0
  unfold RReadPost at HRa HRb
  generalize Div3Post (val a) (val b) w = post at *
  generalize val a = x at *
  generalize val b = y at *
  generalize (digL a).2 = na at *
  generalize (digL b).2 = nb at *
  generalize valD (digL a).1 = u at *
  generalize valD (digL b).1 = v at *
  generalize (shortL a).1 = m at *
  generalize (shortL b).1 = n at *
  generalize (shortL a).2 = ka at *
  generalize (shortL b).2 = kb at *
  clear ha hb h0
  unfold S at *
  go_enter Tryz.func116, Tryz.ntmps116
  go_wp2_with fail
  refine HSa.out.mono ?_
  rintro e w1 ⟨rfl, rfl⟩
  go_wp2_with fail
  refine HSb.out.mono ?_
  rintro e w1 ⟨rfl, rfl⟩
  clear HSa HSb
  have hcase : kb = false ∧ ka = false ∨ kb = false ∧ ka = true ∨ kb = true ∧ ka = false ∧ n ≠ 0 := by cases ka <;> cases kb <;> simp_all
  clear hk hn0
  go_upto_region 3 with (fail)
  go_cut [33] (fun s wc => s = .bool false ∧ wc = w)
  case first =>
    rcases hcase with ⟨rfl, rfl⟩ | ⟨rfl, rfl⟩ | ⟨rfl, rfl, hn0⟩
    · go_wp2_with fail
      go_meet
      exact ⟨rfl, rfl⟩
    · go_wp2_with fail
      go_meet
      exact ⟨rfl, rfl⟩
    · have hn1 : (n == 0) = false := by simpa using hn0
      go_wp2_with fail
      go_meet
      exact ⟨rfl, rfl⟩
  case rest =>
  obtain ⟨rfl, hwc⟩ := hcut
  replace hwc := hwc.symm
  subst hwc
  go_upto_region 5 with (fail)
  go_cut [37] (fun s wc => s = .bool false ∧ wc = w)
  case first =>
    rcases hcase with ⟨rfl, rfl⟩ | ⟨rfl, rfl⟩ | ⟨rfl, rfl, hn0⟩
    all_goals
      go_wp2_with fail
      go_meet
      exact ⟨rfl, rfl⟩
  case rest =>
  obtain ⟨rfl, hwc⟩ := hcut
  replace hwc := hwc.symm
  subst hwc
  clear hcase
  go_wp2_with fail
  refine HRa.out.mono ?_
  rintro e w1 ⟨A1, n1, c1, xs, rfl, ho1, hc1, mg1, hb1⟩
  have HO1 := Lib.hid ho1; have HM1 := Lib.hid mg1; clear ho1 mg1 HRa
  go_wp2_with fail
  refine (HRb.out _).mono ?_
  rintro e w2 ⟨A2, n2, c2, ys, rfl, ho2, hc2, mg2, hb2⟩
  have HX1 := Lib.hid (HO1.out.here hb2)
  have HX2 := Lib.hid ho2; have HM2 := Lib.hid mg2; clear ho2 mg2 HRb
  have HL1 := Lib.hid (show n1 ≤ K by rw [HX1.out.1]; exact HM1.out.len HVA.out)
  have HL2 := Lib.hid (show n2 ≤ K by rw [HX2.out.1]; exact HM2.out.len HVB.out)
  have hb02 := hb1.trans (hb2.mono hb1.size)
  have hN1 : RNumB ((w2.alloc (.cells #[.bool na, .slice A1 n1 c1] 126)).alloc (.cells #[.bool nb, .slice A2 n2 c2] 126)) w2.heap.size na A1 n1 c1 := (RNumB.new w2 na A1 n1 c1).alloc _
  have hN2 : RNumB ((w2.alloc (.cells #[.bool na, .slice A1 n1 c1] 126)).alloc (.cells #[.bool nb, .slice A2 n2 c2] 126)) (w2.heap.size + 1) nb A2 n2 c2 := by
    have := RNumB.new (w2.alloc (.cells #[.bool na, .slice A1 n1 c1] 126)) nb A2 n2 c2
    simpa using this
  have hbA : Below w2.heap.size w2 ((w2.alloc (.cells #[.bool na, .slice A1 n1 c1] 126)).alloc (.cells #[.bool nb, .slice A2 n2 c2] 126)) := ((Below.refl _ _).alloc (Nat.le_refl _) _).alloc (by simp) _
  have HX1' := Lib.hid (HX1.out.here hbA); have HX2' := Lib.hid (HX2.out.here hbA)
  have HST := Lib.hid (show RDv w w2.heap.size na nb A1 A2 n1 c1 n2 c2 ys _ from ⟨hN1, hN2, HX2'.out, hb02.trans (hbA.mono hb02.size), hb02.size⟩)
  obtain ⟨x0, x1⟩ := hN1.cells
  obtain ⟨y0, y1⟩ := hN2.cells
  clear hN1 hN2 hbA HX1 HX2 HO1
  go_upto_region 12 with (fail)
  generalize (w2.alloc (.cells #[.bool na, .slice A1 n1 c1] 126)).alloc (.cells #[.bool nb, .slice A2 n2 c2] 126) = W at *
  go_wp2_with fail
  (with_reducible refine (rDivide_any A1 A2 n1 n2 c1 c2 xs ys u v W HX1'.out HX2'.out HM1.out HM2.out (by have := HL1.out; have := HK.out; omega) (by have := HL2.out; have := HK.out; omega) hv0).mono ?_)
  rintro e w3 ⟨A3, n3, c3, qs, A4, n4, c4, rs, rfl, hg3, hc3, mg3, hg4, hc4, mg4, hb3⟩
  have HS3 := Lib.hid (HST.out.here hb3)
  have HG3 := Lib.hid hg3; have HG4 := Lib.hid hg4; have HM3 := Lib.hid mg3; have HM4 := Lib.hid mg4
  have HL3 := Lib.hid (show n3 ≤ K by rw [hg3.1]; exact mg3.len (Nat.lt_of_le_of_lt (Nat.div_le_self _ _) HVA.out))
  have HL4 := Lib.hid (show n4 ≤ K by rw [hg4.1]; exact mg4.len (Nat.lt_trans (Nat.mod_lt _ hv0) HVB.out))
  have HNZ4 := Lib.hid (show n4 = 0 ↔ u % v = 0 by rw [hg4.1, ← mg4.nil_iff]; exact ⟨List.eq_nil_of_length_eq_zero, fun h => by rw [h]; rfl⟩)
  have HFD := Lib.hid (fdiv_sv na nb u v hv0)
  rw [HSA.out, HSB.out] at HFD
  clear hg3 hg4 mg3 mg4 HST x0 x1 y0 y1 HX1' HX2'
  obtain ⟨x0, x1⟩ := HS3.out.x.cells
  obtain ⟨y0, y1⟩ := HS3.out.y.cells
  have hlt : w2.heap.size + 1 < w3.heap.size := HS3.out.y.lt
  have hlt' : w2.heap.size < w3.heap.size := by omega
  go_upto_region 13 with (fail)
  go_cut [17, 18] (fun s t wc => ∃ (p q : Nat), s = .pointer (some ⟨p, 0, none⟩) ∧ t = .pointer (some ⟨q, 0, none⟩) ∧ Hid (p ≠ q) ∧ Hid (RNumB wc p (na != nb) A3 n3 c3) ∧ Hid (RNumB wc q na A4 n4 c4) ∧ Hid (w3.heap.size ≤ p) ∧ Hid (w3.heap.size ≤ q) ∧ Hid (Below w3.heap.size w3 wc))
  case first =>
    go_region
    all_goals
      go_wp2_with fail
      go_meet
      first
        | exact ⟨_, _, rfl, rfl, show _ ≠ _ by omega, (RNumB.two w3 (na != nb) na A3 A4 n3 c3 n4 c4).1, (RNumB.two w3 (na != nb) na A3 A4 n3 c3 n4 c4).2.1, Nat.le_refl _, Nat.le_succ _, (RNumB.two w3 (na != nb) na A3 A4 n3 c3 n4 c4).2.2⟩
        | exact ⟨_, _, rfl, rfl, show _ ≠ _ by omega, (RNumB.two w3 na (na != nb) A4 A3 n4 c4 n3 c3).2.1, (RNumB.two w3 na (na != nb) A4 A3 n4 c4 n3 c3).1, Nat.le_succ _, Nat.le_refl _, (RNumB.two w3 na (na != nb) A4 A3 n4 c4 n3 c3).2.2⟩
  case rest =>
  obtain ⟨p, q, rfl, rfl, HPQ, HB1, HB2, HP1, HP2, hbc⟩ := hcut
  obtain ⟨w4, rfl⟩ : ∃ W, W = wc := ⟨_, rfl⟩
  have HS4 := Lib.hid (HS3.out.here hbc.out)
  have HG3' := Lib.hid (HG3.out.here hbc.out)
  have HG4' := Lib.hid (HG4.out.here hbc.out)
  have HYP := Lib.hid (show w2.heap.size + 1 < p by have := HP1.out; omega)
  have HYQ := Lib.hid (show w2.heap.size + 1 < q by have := HP2.out; omega)
  have HW2 := Lib.hid (show w.heap.size ≤ w2.heap.size from HS4.out.le)
  clear HS3 HG3 HG4 x0 x1 y0 y1 hlt hlt' hbc HP1 HP2
  obtain ⟨x0, x1⟩ := HS4.out.x.cells
  obtain ⟨y0, y1⟩ := HS4.out.y.cells
  obtain ⟨p0, p1⟩ := HB1.out.cells
  obtain ⟨q0, q1⟩ := HB2.out.cells
  obtain ⟨bb, hbb⟩ : ∃ bb : Bool, bb = (decide (0 < n4) && (na != nb)) := ⟨_, rfl⟩
  have HBB := Lib.hid hbb; clear hbb
  go_upto_region 14 with (fail)
  go_cut [94] (fun s wc => s = .bool bb ∧ wc = w4)
  case first =>
    rcases Nat.eq_zero_or_pos n4 with h4 | h4
    · subst h4
      go_wp2_with fail
      go_meet
      exact ⟨by rw [HBB.out]; rfl, rfl⟩
    · have h5 : decide (0 < n4) = true := by simpa using h4
      have HH := Lib.hid h5
      cases na <;> cases nb
      all_goals
        go_wp2_with fail
        go_meet
        exact ⟨by rw [HBB.out, HH.out]; rfl, rfl⟩
  case rest =>
  obtain ⟨rfl, hwc⟩ := hcut
  replace hwc := hwc.symm
  subst hwc
  go_upto_if 94 with (fail)
  go_cut [17] (fun s wc => s = .pointer (some ⟨p, 0, none⟩) ∧ ∃ (ng1 : Bool) (A5 : Option Addr) (n5 c5 : Nat) (ng2 : Bool) (A6 : Option Addr) (n6 c6 : Nat) (qs' rs' : List Nat) (Q R : Nat), Hid (RNumB wc p ng1 A5 n5 c5) ∧ Hid (RNumB wc q ng2 A6 n6 c6) ∧ Hid (Gi wc wc.heap.size A5 n5 qs') ∧ Hid (Gi wc wc.heap.size A6 n6 rs') ∧ Hid (n5 ≤ K + 1) ∧ Hid (n6 ≤ K + 1) ∧ Hid (Mag qs' Q) ∧ Hid (Mag rs' R) ∧ Hid (x.fdiv y = sv ng1 Q) ∧ Hid (x.fmod y = sv ng2 R) ∧ Hid (Below w.heap.size w wc))
  case first =>
    cases bb with
    | false =>
      have hor : na = nb ∨ u % v = 0 := by
        have h1 := HBB.out
        by_cases h : na = nb
        · exact .inl h
        · refine .inr (HNZ4.out.1 ?_)
          have h2 : (na != nb) = true := by simpa using h
          rw [h2] at h1
          simp at h1
          exact h1
      have HEQ := Lib.hid (HFD.out.1 hor)
      have HSW := Lib.hid (sv_swap hor)
      clear hor
      go_wp2_with fail
      go_meet
      exact ⟨rfl, na != nb, A3, n3, c3, na, A4, n4, c4, qs, rs, u / v, u % v, HB1, HB2, HG3', HG4', by show _ ≤ _; have := HL3.out; omega, by show _ ≤ _; have := HL4.out; omega, HM3, HM4, HEQ.out.1, by show _ = _; rw [HEQ.out.2, HSW.out], HS4.out.bl⟩
    | true =>
      have hne : na ≠ nb ∧ 0 < n4 := by have h1 := HBB.out; simp at h1; exact ⟨h1.2, h1.1⟩
      have hr0 : 0 < u % v := Nat.pos_of_ne_zero (fun h => by have := HNZ4.out.2 h; omega)
      have HEQ := Lib.hid (HFD.out.2 ⟨hne.1, hr0⟩)
      have HNE := Lib.hid hne.1
      clear hne
      have hbA : Below w4.heap.size w4 (w4.alloc (.cells #[.int .i64 1] 3)) := (Below.refl _ _).alloc (Nat.le_refl _) _
      have HSL := Lib.hid (show Gi (w4.alloc (.cells #[.int .i64 1] 3)) (w4.alloc (.cells #[.int .i64 1] 3)).heap.size (some ⟨w4.heap.size, 0, none⟩) 1 [1] by
        have := Sl.lit (enc := G1) w4 #[.int .i64 1] 3 [1] rfl G1_len
        simpa using this)
      have HAD := Lib.hid (rAddN_any (na != nb) true A3 (some ⟨w4.heap.size, 0, none⟩) n3 1 c3 1 qs [1] (u / v) 1 (w4.alloc (.cells #[.int .i64 1] 3)) (HG3'.out.here hbA) HSL.out HM3.out (Mag.one' (by omega) (by omega)) (by have := HL3.out; have := HK.out; omega) (by omega))
      have HBA := Lib.hid hbA
      clear hbA HSL
      go_upto_region 15 with (fail)
      go_wp2_with fail
      refine HAD.out.mono ?_
      rintro e w5 ⟨ng1, A5, n5, c5, qs', Q, rfl, hg5, hc5, mg5, hs5, hb5⟩
      have hb45 : Below w4.heap.size w4 w5 := HBA.out.trans (hb5.mono HBA.out.size)
      have HS5 := Lib.hid (HS4.out.here hb45)
      have HB15 := Lib.hid (HB1.out.here hb45); have HB25 := Lib.hid (HB2.out.here hb45)
      have HG45 := Lib.hid (HG4'.out.here hb45)
      have HG5 := Lib.hid hg5; have HM5 := Lib.hid mg5
      obtain ⟨e1, e2⟩ := div_up HNE.out hs5
      have HQ1 := Lib.hid e1; have HQ2 := Lib.hid e2
      have f0 := HB15.out.frozen 0; have f1 := HB15.out.frozen 1
      clear x0 x1 y0 y1 p0 p1 q0 q1 hg5 mg5 hs5 hb5 hb45 e1 e2 HAD HBA
      obtain ⟨p0, p1⟩ := HB15.out.cells
      go_upto_region 16 with (fail)
      have HB16 := Lib.hid (HB15.out.set_ (neg' := ng1) (A' := A5) (n' := n5) (c' := c5))
      have HB26 := Lib.hid ((HB25.out.far (a := ⟨p, 0, none⟩) (fun h => HPQ.out h.symm) (.bool ng1)).far (a := ⟨p, 1, none⟩) (fun h => HPQ.out h.symm) (.slice A5 n5 c5))
      have HY6 := Lib.hid ((HS5.out.y.far (a := ⟨p, 0, none⟩) (by have := HYP.out; simp only; omega) (.bool ng1)).far (a := ⟨p, 1, none⟩) (by have := HYP.out; simp only; omega) (.slice A5 n5 c5))
      have HG46 := Lib.hid (HB15.out.apart HG45.out (.bool ng1) (.slice A5 n5 c5))
      have HG26 := Lib.hid (HB15.out.apart HS5.out.g (.bool ng1) (.slice A5 n5 c5))
      have HG56 := Lib.hid (HB15.out.apart HG5.out (.bool ng1) (.slice A5 n5 c5))
      have HBL6 := Lib.hid ((HS5.out.bl.setCell (p := ⟨p, 0, none⟩) (by have := HYP.out; have := HW2.out; simp only; omega) (.bool ng1)).setCell (p := ⟨p, 1, none⟩) (by have := HYP.out; have := HW2.out; simp only; omega) (.slice A5 n5 c5))
      have HZ6 := Lib.hid (show ((w5.setCell ⟨p, 0, none⟩ (.bool ng1)).setCell ⟨p, 1, none⟩ (.slice A5 n5 c5)).heap.size = w5.heap.size by simp)
      generalize (w5.setCell ⟨p, 0, none⟩ (.bool ng1)).setCell ⟨p, 1, none⟩ (.slice A5 n5 c5) = w6 at *
      rw [← HZ6.out] at HG46 HG26 HG56
      clear p0 p1 f0 f1 HB15 HB25 HS5 HG45 HG5 HZ6
      obtain ⟨q0, q1⟩ := HB26.out.cells
      obtain ⟨y0, y1⟩ := HY6.out.cells
      have HAD := Lib.hid (rAddN_any na nb A4 A2 n4 n2 c4 c2 rs ys (u % v) v w6 HG46.out HG26.out HM4.out HM2.out (by have := HL4.out; have := HK.out; omega) (by have := HL2.out; have := HK.out; omega))
      go_wp2_with fail
      refine HAD.out.mono ?_
      rintro e w7 ⟨ng2, A6, n6, c6, rs', R, rfl, hg7, hc7, mg7, hs7, hb7⟩
      have HB17 := Lib.hid (HB16.out.here hb7); have HB27 := Lib.hid (HB26.out.here hb7)
      have HG57 := Lib.hid (HG56.out.here hb7)
      have HG7 := Lib.hid hg7; have HM7 := Lib.hid mg7
      have HBL7 := Lib.hid (HBL6.out.trans (hb7.mono HBL6.out.size))
      obtain ⟨e1, e2⟩ := mod_up HNE.out (Nat.le_of_lt (Nat.mod_lt _ hv0)) hs7
      have HR1 := Lib.hid e1; have HR2 := Lib.hid e2
      have f0 := HB27.out.frozen 0; have f1 := HB27.out.frozen 1
      clear y0 y1 q0 q1 hg7 mg7 hs7 hb7 e1 e2 HAD
      obtain ⟨q0, q1⟩ := HB27.out.cells
      go_wp2_with fail
      go_meet
      refine ⟨rfl, ng1, A5, n5, c5, ng2, A6, n6, c6, qs', rs', Q, R, ?_, HB27.out.set_, ?_, ?_, ?_, ?_, HM5, HM7, ?_, ?_, ?_⟩
      · exact (HB17.out.far (a := ⟨q, 0, none⟩) (fun h => HPQ.out h) (.bool ng2)).far (a := ⟨q, 1, none⟩) (fun h => HPQ.out h) (.slice A6 n6 c6)
      · exact (HB27.out.apart HG57.out (.bool ng2) (.slice A6 n6 c6)).more (by simp)
      · exact (HB27.out.apart HG7.out (.bool ng2) (.slice A6 n6 c6)).more (by simp)
      · show _ ≤ _
        rw [HG57.out.1]
        refine HM5.out.len ?_
        rw [HQ2.out, Nat.pow_succ]
        have h1 := Nat.div_le_self u v
        have h2 := HVA.out
        omega
      · show _ ≤ _
        rw [HG7.out.1]
        refine HM7.out.len ?_
        rw [Nat.pow_succ]
        have h2 := HVB.out
        have h3 := HR2.out
        omega
      · show _ = _
        rw [HEQ.out.1, HQ1.out]
      · show _ = _
        rw [HEQ.out.2, HR1.out]
      · exact (HBL7.out.setCell (p := ⟨q, 0, none⟩) (by have := HYQ.out; have := HW2.out; simp only; omega) (.bool ng2)).setCell (p := ⟨q, 1, none⟩) (by have := HYQ.out; have := HW2.out; simp only; omega) (.slice A6 n6 c6)
  case rest =>
  obtain ⟨rfl, ng1, A5, n5, c5, ng2, A6, n6, c6, qs', rs', Q, R, HB1', HB2', HG5, HG6, HL5, HL6, HM5, HM6, HE1, HE2, HBL⟩ := hcut
  obtain ⟨w8, rfl⟩ : ∃ W, W = wc := ⟨_, rfl⟩
  clear x0 x1 y0 y1 p0 p1 q0 q1 HB1 HB2 HG3' HG4'
  obtain ⟨p0, p1⟩ := HB1'.out.cells
  obtain ⟨q0, q1⟩ := HB2'.out.cells
  have HT1 := Lib.hid (rWrite_any ng1 A5 n5 c5 qs' w8.drew HG5.out.drew HM5.out.gs (by have := HL5.out; have := HK.out; omega))
  rw [HM5.out.val, numT_sv, ← HE1.out] at HT1
  have HT2 := Lib.hid (fun W (hb : Below w8.heap.size w8 W) => rWrite_any ng2 A6 n6 c6 rs' W (HG6.out.here hb) HM6.out.gs (by have := HL6.out; have := HK.out; omega))
  rw [HM6.out.val, numT_sv, ← HE2.out] at HT2
  unfold S at HT1 HT2
  go_upto_region 17 with (fail)
  go_region_held3 (fun w' => w'.cell? ⟨p, 0, none⟩ = some (.bool ng1) ∧ w'.cell? ⟨p, 1, none⟩ = some (.slice A5 n5 c5) ∧ w'.cell? ⟨q, 0, none⟩ = some (.bool ng2) ∧ w'.cell? ⟨q, 1, none⟩ = some (.slice A6 n6 c6))
    (first
      | go_keep
      | exact ⟨(HB1'.out.here hbz).cells.1, (HB1'.out.here hbz).cells.2, (HB2'.out.here hbz).cells.1, (HB2'.out.here hbz).cells.2⟩
      | exact ⟨(HB1'.out.here hbz2).cells.1, (HB1'.out.here hbz2).cells.2, (HB2'.out.here hbz2).cells.1, (HB2'.out.here hbz2).cells.2⟩)
    (first
      | (go_at_call_of 95 (Value.agg #[.bool ng1, .slice A5 n5 c5]); refine HT1.out.mono ?_; rintro e w9 ⟨rfl, hb9⟩
         have hbz : Below w8.heap.size w8 w9 := (Below.refl _ w8).drew.trans hb9)
      | (go_at_call 95; refine (HT2.out _ hbz).mono ?_; rintro e w10 ⟨rfl, hb10⟩
         have hbz2 : Below w8.heap.size w8 w10 := hbz.trans (hb10.mono hbz.size)))
  all_goals
    go_wp2_with fail
    go_ret3
    rw [HPO.out]
    exact ⟨rfl, HBL.out.trans (hbz2.mono HBL.out.size)⟩
end Go.Proofs.YtpnncoinlopndaaGreatDoor

namespace Go.Proofs.YtpnncoinlopndaaGreatDoor
open Go.RowKit Go.Shelf
theorem rDiv_any (a b : List UInt8) (w : World) (ha : a.length ≤ 100000) (hb : b.length ≤ 100000) : Calls Tryz.prog 116 #[S a, S b] w (Div3Post (val a) (val b) w) := by
  by_cases h0 : val b = 0
  · exact rDiv_zero a b w ha hb h0
  · by_cases hk : (shortL a).2 = true ∧ (shortL b).2 = true
    · exact rDiv_short a b w ha hb h0 hk.1 hk.2
    · exact rDiv_long a b w ha hb h0 hk
end Go.Proofs.YtpnncoinlopndaaGreatDoor

namespace Go.Proofs.YtpnncoinlopndaaGreatDoor
open Go.RowKit Go.Shelf
def strM (v : Value) : Nat := match v with | .string b => (val b.data.toList).natAbs | _ => 0
theorem strM_eq (l : List UInt8) : strM (.string ⟨l.toArray⟩) = (val l).natAbs := by simp [strM]
theorem txt_dig (a : List UInt8) : txtL ((valD (digL a).1 : Nat) : Int) = (digL a).1 := by
  rw [txtL_nat, digs_valD (digL_ok a).1 (digL_ok a).2.1]
theorem mod_len {m n L : Nat} (hn : n ≠ 0) (h : (txtL (n : Int)).length ≤ L) : (txtL ((m % n : Nat) : Int)).length ≤ L := by
  rw [txtL_nat] at h ⊢
  refine Nat.le_trans (digs_length (L := (digs n).length) ?_) h
  have h1 := valD_lt (digs_dig n)
  rw [valD_digs] at h1
  have := Nat.mod_lt m (Nat.pos_of_ne_zero hn)
  omega
theorem fmod_nat (m n : Nat) : Int.fmod (m : Int) (n : Int) = ((m % n : Nat) : Int) := by
  rw [Int.fmod_eq_emod_of_nonneg _ (by omega)]
  simp
set_option maxRecDepth 20000 in
set_option maxHeartbeats 1000000 in
theorem rGcd_any (a b : List UInt8) (w : World) (ha : a.length ≤ 100000) (hb : b.length ≤ 100000) : Calls Tryz.prog 146 #[S a, S b] w (StrPost (txtL (Int.gcd (val a) (val b) : Nat)) w) := by
  have HDa := Lib.hid (rDigits_any a w (by omega))
  have HDb := Lib.hid (rDigits_any b w (by omega))
  have HPO := Lib.hid (show StrPost (txtL (Int.gcd (val a) (val b) : Nat)) w = fun e w' => e = .returned (S (txtL (Int.gcd (val a) (val b) : Nat))) ∧ Below w.heap.size w w' from rfl)
  have HGV := Lib.hid (gcd_val a b)
  have HLA := Lib.hid (Nat.le_trans (digL_len a) ha)
  have HLB := Lib.hid (Nat.le_trans (digL_len b) hb)
  rw [← txt_dig a] at HDa HLA
  rw [← txt_dig b] at HDb HLB
  generalize StrPost (txtL (Int.gcd (val a) (val b) : Nat)) w = post at *
  generalize Int.gcd (val a) (val b) = G at *
  generalize valD (digL a).1 = u at *
  generalize valD (digL b).1 = v at *
  generalize (digL a).2 = na at *
  generalize (digL b).2 = nb at *
  clear ha hb
  unfold S at *
  go_enter Tryz.func146, Tryz.ntmps146
  go_wp2_with fail
  refine HDa.out.mono ?_
  rintro e w1 ⟨rfl, rfl⟩
  go_wp2_with fail
  refine HDb.out.mono ?_
  rintro e w1 ⟨rfl, rfl⟩
  go_wp2_with fail
  go_loopw [9, 10] (fun s t wr => ∃ m n : Nat, s = .string ⟨(txtL (m : Int)).toArray⟩ ∧ t = .string ⟨(txtL (n : Int)).toArray⟩ ∧ Hid (Nat.gcd m n = G) ∧ Hid ((txtL (m : Int)).length ≤ 100000) ∧ Hid ((txtL (n : Int)).length ≤ 100000) ∧ Below w.heap.size w wr) (fun _ t _ => strM t)
  case atStart => exact ⟨u, v, rfl, rfl, HGV, HLA, HLB, Below.refl _ _⟩
  case round =>
    clear HDa HDb HGV HLA HLB
    obtain ⟨m, n, rfl, rfl, HG, HM, HN, hbl⟩ := hrel
    by_cases hn : n = 0
    · subst hn
      have HGm := Lib.hid (show m = G by have := HG.out; rwa [Nat.gcd_zero_right] at this)
      have hz : txtL ((0 : Nat) : Int) = [] := rfl
      rw [hz]
      clear HG HM HN
      go_wp2_with fail
      first | go_ret | skip
      rw [HPO.out, HGm.out]
      exact ⟨rfl, hbl⟩
    · have hne : (txtL (n : Int) == []) = false := by
        rw [Bool.eq_false_iff]
        intro h
        have := txtL_nil.1 (eq_of_beq h)
        omega
      have HDV := Lib.hid (rDiv_any (txtL (m : Int)) (txtL (n : Int)) wr HM.out HN.out)
      rw [val_txtL, val_txtL] at HDV
      have HNE := Lib.hid hn
      have HME := Lib.hid (show strM (.string ⟨(txtL ((m % n : Nat) : Int)).toArray⟩) < strM (.string ⟨(txtL (n : Int)).toArray⟩) by
        rw [strM_eq, strM_eq, val_txtL, val_txtL]
        have := Nat.mod_lt m (Nat.pos_of_ne_zero hn)
        omega)
      have HFM := Lib.hid (fmod_nat m n)
      clear hn
      unfold S at *
      go_wp2_with fail
      refine HDV.out.mono ?_
      intro e w1 h1
      obtain ⟨rfl, hb1⟩ := Div3_ok (by have := HNE.out; omega) h1
      clear h1
      rw [HFM.out]
      go_wp2_with fail
      go_roundw
      case rel => exact ⟨n, m % n, rfl, rfl, by show _ = _; rw [← HG.out, Nat.gcd_comm m n, Nat.gcd_rec n m, Nat.gcd_comm], HN, mod_len HNE.out HN.out, hbl.trans (hb1.mono hbl.size)⟩
      case measure => exact HME.out
end Go.Proofs.YtpnncoinlopndaaGreatDoor

namespace Go.Proofs.YtpnncoinlopndaaGreatDoor
open Go.RowKit Go.Shelf
def Fr.raw (f : Fr) : Fr := ⟨if val f.d < 0 then txtL (-val f.n) else f.n, if val f.d = 0 then [49] else if val f.d < 0 then txtL (-val f.d) else f.d⟩
theorem Fr.raw_pos (f : Fr) : 0 < val f.raw.d := by
  unfold Fr.raw
  simp only
  split
  · rw [one_val]; omega
  · split
    · rw [val_txtL]; omega
    · omega
theorem Fr.raw_dv (f : Fr) : f.raw.dv = val f.raw.d := by
  have := f.raw_pos
  unfold Fr.dv
  rw [if_neg (by omega)]
theorem Fr.raw_rat (f : Fr) : Rat.divInt (val f.raw.n) (val f.raw.d) = f.rat := by
  unfold Fr.raw Fr.rat Fr.dv
  simp only
  by_cases h0 : val f.d = 0
  · rw [if_pos h0, if_pos h0, if_neg (by omega), one_val]
  · rw [if_neg h0, if_neg h0]
    by_cases h1 : val f.d < 0
    · rw [if_pos h1, if_pos h1, val_txtL, val_txtL, Rat.neg_divInt_neg]
    · rw [if_neg h1, if_neg h1]
theorem Fr.raw_rat' (f : Fr) : f.raw.rat = f.rat := by
  have := f.raw_rat
  rw [← f.raw_dv] at this
  exact this
theorem Fr.raw_sz {f : Fr} {L : Nat} (h : f.Sz L) (hL : 1 ≤ L) : f.raw.Sz (L + 1) := by
  have h1 := val_lt f.n
  have h2 := val_lt f.d
  have h3 := h.1
  have h4 := h.2
  have e1 := txtL_length (n := -val f.n) (L := f.n.length) (by omega)
  have e2 := txtL_length (n := -val f.d) (L := f.d.length) (by omega)
  unfold Fr.raw
  constructor
  · simp only
    split <;> omega
  · simp only
    split
    · simp
    · split <;> omega
set_option maxRecDepth 20000 in
theorem zZero_any (a : List UInt8) (w : World) (ha : a.length ≤ 100000000) : Calls Tryz.prog 145 #[S a] w fun e w' => e = .returned (.bool (decide (val a = 0))) ∧ w = w' := by
  have HC := Lib.hid (rCompare_any a [] w ha (by simp))
  rw [val_nil, Int.sub_zero] at HC
  have HE := Lib.hid (sgn_zero (val a))
  generalize sgnI (val a) = z at *
  generalize decide (val a = 0) = bb at *
  clear ha
  unfold S at *
  go_enter Tryz.func145, Tryz.ntmps145
  go_wp2_with fail
  refine HC.out.mono ?_
  rintro e w1 ⟨rfl, rfl⟩
  go_wp2_with fail
  go_ret
  exact ⟨ret_bool HE.out, rfl⟩
set_option maxRecDepth 20000 in
theorem zOne_any (w : World) : Calls Tryz.prog 105 #[] w fun e w' => e = .returned (S [49]) ∧ w = w' := by
  have HC := Lib.hid (rOf_any 1 (by omega) (by omega) w)
  rw [one_txt] at HC
  unfold S at *
  go_enter Tryz.func105, Tryz.ntmps105
  go_wp2_with fail
  refine HC.out.mono ?_
  rintro e w1 ⟨rfl, rfl⟩
  go_wp2_with fail
  go_ret
  exact ⟨rfl, rfl⟩
set_option maxRecDepth 20000 in
set_option maxHeartbeats 1000000 in
theorem zRaw_any (f : Fr) (w : World) (hf : f.Sz 100000) : Calls Tryz.prog 106 #[FrV f] w (TwoPost f.raw.n f.raw.d w) := by
  have hbA : Below w.heap.size w (w.alloc (.cells #[.string ⟨f.n.toArray⟩, .string ⟨f.d.toArray⟩] 26)) := (Below.refl _ _).alloc (Nat.le_refl _) _
  have HZ := Lib.hid (fun W => zZero_any f.d W (by have := hf.2; omega))
  have HO := Lib.hid (fun W => zOne_any W)
  have HCM := Lib.hid (fun W => rCompare_any f.d [] W (by have := hf.2; omega) (by simp))
  rw [val_nil, Int.sub_zero] at HCM
  have HN1 := Lib.hid (fun W => rNeg_any f.n W (by have := hf.1; omega))
  have HN2 := Lib.hid (fun W => rNeg_any f.d W (by have := hf.2; omega))
  have HPO := Lib.hid (show TwoPost f.raw.n f.raw.d w = fun e w' => e = .returned (.tuple #[S f.raw.n, S f.raw.d]) ∧ Below w.heap.size w w' from rfl)
  have HB := Lib.hid (FrB.new w f)
  have HBA := Lib.hid hbA
  generalize TwoPost f.raw.n f.raw.d w = post at *
  obtain ⟨c0, c1⟩ := HB.out.cells
  clear hbA hf
  unfold Fr.raw at HPO
  unfold S FrV at *
  unfold S
  go_enter Tryz.func106, Tryz.ntmps106
  go_wp2_with fail
  generalize w.alloc (.cells #[.string ⟨f.n.toArray⟩, .string ⟨f.d.toArray⟩] 26) = W at *
  by_cases h0 : val f.d = 0
  · rw [show decide (val f.d = 0) = true by simp [h0]] at HZ
    rw [if_pos h0, if_neg (by omega)] at HPO
    clear h0 HCM HN1 HN2
    refine (HZ.out _).mono ?_
    rintro e w1 ⟨rfl, rfl⟩
    go_wp2_with fail
    go_quiet ((go_at_call 105; exact Calls.quiet_of_same ((HO.out _).mono (fun e w' h => And.intro h.1 h.2.symm))))
    go_wp2_with fail
    rw [HPO.out]
    exact ⟨rfl, bdN HBA.out _⟩
  · rw [show decide (val f.d = 0) = false by simp [h0]] at HZ
    rw [if_neg h0] at HPO
    refine (HZ.out _).mono ?_
    rintro e w1 ⟨rfl, rfl⟩
    by_cases h1 : val f.d < 0
    · rw [show sgnI (val f.d) = -1 by unfold sgnI; rw [if_pos h1]] at HCM
      rw [if_pos h1, if_pos h1] at HPO
      clear h0 h1
      go_wp2_with fail
      refine (HCM.out _).mono ?_
      rintro e w1 ⟨rfl, rfl⟩
      go_wp2_with fail
      go_quiet (first | (go_at_call_of 92 (Value.string ⟨f.n.toArray⟩); exact Calls.quiet_of_same ((HN1.out _).mono (fun e w' h => And.intro h.1 h.2.symm))) | (go_at_call_of 92 (Value.string ⟨f.d.toArray⟩); exact Calls.quiet_of_same ((HN2.out _).mono (fun e w' h => And.intro h.1 h.2.symm))))
      go_wp2_with fail
      rw [HPO.out]
      exact ⟨rfl, bdN HBA.out _⟩
    · rw [show sgnI (val f.d) = 1 by unfold sgnI; rw [if_neg h1, if_pos (by omega)]] at HCM
      rw [if_neg h1, if_neg h1] at HPO
      clear h0 h1
      go_wp2_with fail
      refine (HCM.out _).mono ?_
      rintro e w1 ⟨rfl, rfl⟩
      go_wp2_with fail
      go_quiet (fail)
      go_wp2_with fail
      rw [HPO.out]
      exact ⟨rfl, bdN HBA.out _⟩
set_option maxRecDepth 20000 in
theorem zExact_any (a b : List UInt8) (w : World) (ha : a.length ≤ 100000) (hb : b.length ≤ 100000) (h0 : val b ≠ 0) : Calls Tryz.prog 147 #[S a, S b] w (StrPost (txtL ((val a).fdiv (val b))) w) := by
  have HD := Lib.hid (rDiv_any a b w ha hb)
  have HPO := Lib.hid (show StrPost (txtL ((val a).fdiv (val b))) w = fun e w' => e = .returned (S (txtL ((val a).fdiv (val b)))) ∧ Below w.heap.size w w' from rfl)
  generalize StrPost (txtL ((val a).fdiv (val b))) w = post at *
  unfold S at *
  go_enter Tryz.func147, Tryz.ntmps147
  go_wp2_with fail
  refine HD.out.mono ?_
  intro e w1 h1
  obtain ⟨rfl, hb1⟩ := Div3_ok h0 h1
  clear h1
  go_wp2_with fail
  first | go_ret | skip
  rw [HPO.out]
  exact ⟨rfl, hb1⟩
end Go.Proofs.YtpnncoinlopndaaGreatDoor

namespace Go.Proofs.YtpnncoinlopndaaGreatDoor
open Go.RowKit Go.Shelf
theorem zRed_below {w W : World} {p : Nat} (h : Below w.heap.size w W) (hp : w.heap.size < p) (u v t : Value) : Below w.heap.size w (((W.setCell ⟨p, 1, none⟩ u).setCell ⟨w.heap.size, 0, none⟩ v).setCell ⟨w.heap.size, 1, none⟩ t) :=
  ((h.setCell (p := ⟨p, 1, none⟩) (Nat.le_of_lt hp) _).setCell (p := ⟨w.heap.size, 0, none⟩) (Nat.le_refl _) _).setCell (p := ⟨w.heap.size, 1, none⟩) (Nat.le_refl _) _
set_option maxRecDepth 20000 in
set_option maxHeartbeats 1000000 in
theorem zReduced_any (n d : List UInt8) (w : World) (hn : n.length ≤ 50000) (hd : d.length ≤ 50000) (hd0 : 0 < val d) :
    Calls Tryz.prog 104 #[S n, S d] w (FracPost (frOf (Rat.divInt (val n) (val d))) w) := by
  have HZ := Lib.hid (fun W => zZero_any n W (by omega))
  have HGC := Lib.hid (fun W => rGcd_any n d W (by omega) (by omega))
  have HGL := Lib.hid (gcd_len (val n) (d := d) (by omega))
  have HGP := Lib.hid (gcd_pos (val n) (val d) (by omega))
  have HR1 := Lib.hid (red_num (val n) (val d) hd0)
  have HR2 := Lib.hid (red_den (val n) (val d) hd0)
  have HQ0 := Lib.hid (show val n = 0 → FrV (frOf (Rat.divInt (val n) (val d))) = FrV Fr.zero by intro h; rw [h, Rat.zero_divInt]; rfl)
  have HQL := Lib.hid (show (txtL (Rat.divInt (val n) (val d)).den).length ≤ 50001 by
    obtain ⟨K, hK⟩ : ∃ K : Nat, K = 50000 := ⟨_, rfl⟩
    rw [← hK] at hd
    have := txtL_length (n := ((Rat.divInt (val n) (val d)).den : Int)) (L := K) (Nat.lt_of_le_of_lt (by have := divInt_den_le (val n) (val d) (by omega); simpa using this) (val_lt' hd))
    omega)
  have HB := Lib.hid (show FrB (w.alloc (.cells #[.string ⟨#[]⟩, .string ⟨#[]⟩] 26)) w.heap.size Fr.zero from FrB.new w Fr.zero)
  have HBA := Lib.hid (show Below w.heap.size w (w.alloc (.cells #[.string ⟨#[]⟩, .string ⟨#[]⟩] 26)) from (Below.refl _ _).alloc (Nat.le_refl _) _)
  have HPO := Lib.hid (show FracPost (frOf (Rat.divInt (val n) (val d))) w = fun e w' => e = .returned (FrV (frOf (Rat.divInt (val n) (val d)))) ∧ Below w.heap.size w w' from rfl)
  have HN := Lib.hid hn; have HD := Lib.hid hd
  generalize FracPost (frOf (Rat.divInt (val n) (val d))) w = post at *
  generalize Rat.divInt (val n) (val d) = q at *
  generalize Int.gcd (val n) (val d) = g at *
  have HV1 := Lib.hid (fun W => zExact_any n (txtL (g : Int)) W (by have := HN.out; omega) (by have := HGL.out; have := HD.out; omega) (by rw [val_txtL]; have := HGP.out; omega))
  have HV2 := Lib.hid (fun W => zExact_any d (txtL (g : Int)) W (by have := HD.out; omega) (by have := HGL.out; have := HD.out; omega) (by rw [val_txtL]; have := HGP.out; omega))
  rw [val_txtL, HR1.out] at HV1
  rw [val_txtL, HR2.out] at HV2
  have HO := Lib.hid (fun W => zOne_any W)
  have HCM := Lib.hid (fun W => rCompare_any (txtL (q.den : Int)) [49] W (by have := HQL.out; omega) (by simp))
  rw [val_txtL, one_val] at HCM
  clear hn hd hd0 HR1 HR2 HGP HGL HN HD HQL
  unfold S at *
  go_enter Tryz.func104, Tryz.ntmps104
  go_wp2_with fail
  generalize w.alloc (.cells #[.string ⟨#[]⟩, .string ⟨#[]⟩] 26) = W at *
  by_cases h0 : val n = 0
  · rw [show decide (val n = 0) = true by simp [h0]] at HZ
    have HF := Lib.hid (HQ0.out h0)
    obtain ⟨c0, c1⟩ := HB.out.cells
    have f0 := HB.out.frozen 0; have f1 := HB.out.frozen 1
    clear h0 HQ0 HV1 HV2 HCM HGC HO
    refine (HZ.out _).mono ?_
    rintro e w1 ⟨rfl, rfl⟩
    go_wp2_with fail
    refine bodyPost_ret (v := .agg #[.string ⟨#[]⟩, .string ⟨#[]⟩]) (by simp [results, Tryz.results104, go_sem, c0, c1]) rfl ?_
    rw [HPO.out, HF.out]
    exact ⟨rfl, (HBA.out.setCell (p := ⟨w.heap.size, 0, none⟩) (Nat.le_refl _) _).setCell (p := ⟨w.heap.size, 1, none⟩) (Nat.le_refl _) _⟩
  · rw [show decide (val n = 0) = false by simp [h0]] at HZ
    clear h0 HQ0
    refine (HZ.out _).mono ?_
    rintro e w1 ⟨rfl, rfl⟩
    go_wp2_with fail
    refine (HGC.out _).mono ?_
    rintro e w2 ⟨rfl, hb2⟩
    have HB2 := Lib.hid (HB.out.here hb2)
    unfold S
    go_wp2_with fail
    refine (HV1.out _).mono ?_
    rintro e w3 ⟨rfl, hb3⟩
    have HB3 := Lib.hid (HB2.out.here hb3)
    unfold S
    go_wp2_with fail
    refine (HV2.out _).mono ?_
    rintro e w4 ⟨rfl, hb4⟩
    have HB4 := Lib.hid (HB3.out.here hb4)
    unfold S
    have hb03 := HBA.out.trans ((hb2.trans ((hb3.trans (hb4.mono hb3.size)).mono hb2.size)).mono HBA.out.size)
    have hbX := (Below.refl w4.heap.size w4).alloc (Nat.le_refl _) (.cells #[.string ⟨(txtL q.num).toArray⟩, .string ⟨(txtL (q.den : Int)).toArray⟩] 26)
    have HB5 := Lib.hid (HB4.out.here hbX)
    have HG5 := Lib.hid (FrB.new w4 ⟨txtL q.num, txtL (q.den : Int)⟩)
    have HLT := Lib.hid (show w.heap.size < w4.heap.size from HB4.out.lt)
    have HBX := Lib.hid (hb03.trans (hbX.mono hb03.size))
    clear HB HB2 HB3 HB4 hb2 hb3 hb4 hbX HZ HGC HV1 HV2 hb03
    go_upto_region 5 with (fail)
    obtain ⟨g0, g1⟩ := HG5.out.cells
    have gf1 := HG5.out.frozen 1
    obtain ⟨c0, c1⟩ := HB5.out.cells
    have f0 := HB5.out.frozen 0; have f1 := HB5.out.frozen 1
    simp only at g0 g1
    generalize w4.alloc (.cells #[.string ⟨(txtL q.num).toArray⟩, .string ⟨(txtL (q.den : Int)).toArray⟩] 26) = W5 at *
    have hlt := HLT.out
    have hne1 : w.heap.size ≠ w4.heap.size := by omega
    have hne2 : w4.heap.size ≠ w.heap.size := by omega
    by_cases h1 : q.den = 1
    · have HF := Lib.hid (show FrV (frOf q) = .agg #[.string ⟨(txtL q.num).toArray⟩, .string ⟨#[]⟩] by unfold FrV frOf; simp only [if_pos h1]; rfl)
      rw [show sgnI ((q.den : Int) - 1) = 0 by rw [h1]; rfl] at HCM
      clear h1
      go_quiet (first
        | (go_at_call 105; exact Calls.quiet_of_same ((HO.out _).mono (fun e w' h => And.intro h.1 h.2.symm)))
        | (go_at_call 62; exact Calls.quiet_of_same ((HCM.out _).mono (fun e w' h => And.intro h.1 h.2.symm))))
      go_wp2_with fail
      refine bodyPost_ret (v := .agg #[.string ⟨(txtL q.num).toArray⟩, .string ⟨#[]⟩]) (by simp [results, Tryz.results104, go_sem, c0, c1]) rfl ?_
      rw [HPO.out, HF.out]
      exact ⟨rfl, zRed_below (bdN HBX.out _) HLT.out _ _ _⟩
    · have HF := Lib.hid (show FrV (frOf q) = .agg #[.string ⟨(txtL q.num).toArray⟩, .string ⟨(txtL q.den).toArray⟩] by unfold FrV frOf; simp only [if_neg h1]; rfl)
      rw [show sgnI ((q.den : Int) - 1) = 1 by unfold sgnI; rw [if_neg (by have := q.den_pos; omega), if_pos (by have := q.den_pos; omega)]] at HCM
      clear h1
      generalize txtL (q.den : Int) = t at *
      go_quiet (first
        | (go_at_call 105; exact Calls.quiet_of_same ((HO.out _).mono (fun e w' h => And.intro h.1 h.2.symm)))
        | (go_at_call 62; exact Calls.quiet_of_same ((HCM.out _).mono (fun e w' h => And.intro h.1 h.2.symm))))
      go_wp2_with fail
      refine bodyPost_ret (v := .agg #[.string ⟨(txtL q.num).toArray⟩, .string ⟨t.toArray⟩]) (by simp [results, Tryz.results104, go_sem, c0, c1]) rfl ?_
      rw [HPO.out, HF.out]
      exact ⟨rfl, ((bdN HBX.out _).setCell (p := ⟨w.heap.size, 0, none⟩) (Nat.le_refl _) _).setCell (p := ⟨w.heap.size, 1, none⟩) (Nat.le_refl _) _⟩
structure Fr2 (w : World) (p : Nat) (f h : Fr) (W : World) : Prop where
  a : FrB W p f
  b : FrB W (p + 1) h
  bl : Below w.heap.size w W
theorem Fr2.here {w : World} {p : Nat} {f h : Fr} {W W' : World} (H : Fr2 w p f h W) (hb : Below W.heap.size W W') : Fr2 w p f h W' := ⟨H.a.here hb, H.b.here hb, H.bl.trans (hb.mono H.bl.size)⟩
theorem Fr2.held {w : World} {p : Nat} {f h : Fr} {W : World} (H : Fr2 w p f h W) : W.cell? ⟨p, 0, none⟩ = some (.string ⟨f.n.toArray⟩) ∧ W.cell? ⟨p, 1, none⟩ = some (.string ⟨f.d.toArray⟩) ∧ W.cell? ⟨p + 1, 0, none⟩ = some (.string ⟨h.n.toArray⟩) ∧ W.cell? ⟨p + 1, 1, none⟩ = some (.string ⟨h.d.toArray⟩) :=
  ⟨H.a.cells.1, H.a.cells.2, H.b.cells.1, H.b.cells.2⟩
theorem Fr2.new (w : World) (f h : Fr) : Fr2 w w.heap.size f h ((w.alloc (.cells #[.string ⟨f.n.toArray⟩, .string ⟨f.d.toArray⟩] 26)).alloc (.cells #[.string ⟨h.n.toArray⟩, .string ⟨h.d.toArray⟩] 26)) := by
  refine ⟨(FrB.new w f).alloc _, ?_, ((Below.refl _ _).alloc (Nat.le_refl _) _).alloc (by simp) _⟩
  have := FrB.new (w.alloc (.cells #[.string ⟨f.n.toArray⟩, .string ⟨f.d.toArray⟩] 26)) h
  simp only [World.size_alloc] at this
  exact this
theorem Fr2.newz (w : World) (f : Fr) : Fr2 w w.heap.size f Fr.zero ((w.alloc (.cells #[.string ⟨f.n.toArray⟩, .string ⟨f.d.toArray⟩] 26)).alloc (.cells #[.string ⟨#[]⟩, .string ⟨#[]⟩] 26)) := Fr2.new w f Fr.zero
set_option maxRecDepth 20000 in
set_option maxHeartbeats 1000000 in
theorem zCanonical_any (f : Fr) (w : World) (hf : f.Sz 40003) : Calls Tryz.prog 103 #[FrV f] w (FracPost (frOf f.rat) w) := by
  have HR := Lib.hid (fun W => zRaw_any f W (hf.more (by omega)))
  obtain ⟨fn, fd⟩ := f.raw_sz hf (by omega)
  have HRD := Lib.hid (fun W => zReduced_any f.raw.n f.raw.d W (by omega) (by omega) f.raw_pos)
  rw [f.raw_rat] at HRD
  have HPO := Lib.hid (show FracPost (frOf f.rat) w = fun e w' => e = .returned (FrV (frOf f.rat)) ∧ Below w.heap.size w w' from rfl)
  generalize FracPost (frOf f.rat) w = post at *
  generalize frOf f.rat = res at *
  have H2 := Lib.hid (Fr2.newz w f)
  obtain ⟨x0, x1⟩ := H2.out.a.cells
  clear hf fn fd
  generalize f.raw = x at *
  unfold FrV at *
  unfold S at *
  go_enter Tryz.func103, Tryz.ntmps103
  go_wp2_with fail
  generalize (w.alloc (.cells #[.string ⟨f.n.toArray⟩, .string ⟨f.d.toArray⟩] 26)).alloc (.cells #[.string ⟨#[]⟩, .string ⟨#[]⟩] 26) = W at *
  refine (HR.out _).mono ?_
  rintro e w1 ⟨rfl, hb1⟩
  unfold S
  have H3 := Lib.hid (H2.out.here hb1)
  go_wp2_with fail
  refine (HRD.out _).mono ?_
  rintro e w2 ⟨rfl, hb2⟩
  unfold FrV S
  have H9 := Lib.hid (H3.out.here hb2)
  have z0 := H9.out.b.cells.1; have z1 := H9.out.b.cells.2; have f0 := H9.out.b.frozen 0; have f1 := H9.out.b.frozen 1
  go_wp2_with fail
  refine bodyPost_ret (v := .agg #[.string ⟨res.n.toArray⟩, .string ⟨res.d.toArray⟩]) (by simp [results, Tryz.results103, go_sem, z0, z1]) rfl ?_
  rw [HPO.out]
  exact ⟨rfl, (H9.out.bl.setCell (p := ⟨w.heap.size + 1, 0, none⟩) (by simp only; omega) _).setCell (p := ⟨w.heap.size + 1, 1, none⟩) (by simp only; omega) _⟩
set_option maxRecDepth 20000 in
set_option maxHeartbeats 1000000 in
theorem zCheck_any (f : Fr) (w : World) (hf : f.Sz 40000) : Calls Tryz.prog 48 #[FrV f] w (CmpIPost (chkF f) w) := by
  have HC := Lib.hid (fun W => zCanonical_any f W (hf.more (by omega)))
  have HPO := Lib.hid (show CmpIPost (chkF f) w = fun e w' => e = .returned (.int .i64 (chkF f)) ∧ Below w.heap.size w w' from rfl)
  have HCK := Lib.hid (show chkF f = if f = frOf f.rat then 0 else 1 from rfl)
  generalize CmpIPost (chkF f) w = post at *
  generalize frOf f.rat = g at *
  have HB := Lib.hid (FrB.new w f)
  have HBA := Lib.hid (show Below w.heap.size w (w.alloc (.cells #[.string ⟨f.n.toArray⟩, .string ⟨f.d.toArray⟩] 26)) from (Below.refl _ _).alloc (Nat.le_refl _) _)
  obtain ⟨x0, x1⟩ := HB.out.cells
  clear hf
  have HEQ := Lib.hid (show chkF f = if (f.n == g.n) && (f.d == g.d) then 0 else 1 by
    rw [HCK.out]
    by_cases h : f = g
    · subst h; simp
    · rw [if_neg h, if_neg]
      intro h2
      simp at h2
      exact h (Fr.ext_ h2.1 h2.2))
  clear HCK
  unfold FrV at *
  unfold S at *
  cases hn : (f.n == g.n) <;> cases hd : (f.d == g.d)
  all_goals
    rw [hn, hd] at HEQ
    simp only [Bool.and_true, Bool.and_false, Bool.true_and, Bool.false_and, Bool.false_eq_true, if_true, if_false] at HEQ
    go_enter Tryz.func48, Tryz.ntmps48
    go_upto_region 1 with (fail)
    generalize w.alloc (.cells #[.string ⟨f.n.toArray⟩, .string ⟨f.d.toArray⟩] 26) = W at *
    go_region_held3 (fun w' => w'.cell? ⟨w.heap.size, 0, none⟩ = some (.string ⟨f.n.toArray⟩) ∧ w'.cell? ⟨w.heap.size, 1, none⟩ = some (.string ⟨f.d.toArray⟩))
      (first
        | exact (HB.out.here hz).cells
        | go_keep)
      (first
        | (go_at_call 103; refine (HC.out _).mono ?_; rintro e w1 ⟨rfl, hb1⟩; unfold FrV S; have hz : Below W.heap.size W w1 := (Below.refl _ W).drew.trans hb1))
    all_goals
      go_wp2_with fail
      rw [HPO.out, HEQ.out]
      exact ⟨rfl, HBA.out.trans (hz.mono HBA.out.size)⟩
end Go.Proofs.YtpnncoinlopndaaGreatDoor

