/- The walk of SpinoffValues. -/
import Derived.Test.YtaiikjgoofefgaaGreatDoorAw28
namespace Go.Proofs.YtaiikjgoofefgaaGreatDoor
open Go.RowKit Go.Shelf

def longF (f : Fr) : Bool := decide (10 < f.n.length ∨ 10 < f.d.length)
theorem longF_no {f : Fr} (h : longF f = false) : f.Sz 10 := by
  unfold longF at h
  simp at h
  exact ⟨by omega, by omega⟩
set_option maxRecDepth 20000 in
theorem long_any (A : Option Addr) (c : Nat) (p v r : Fr) (w : World) (hs : Frs w w.heap.size A 3 [p, v, r]) (hl : ∀ x ∈ [p, v, r], x.n.length ≤ maxLen ∧ x.d.length ≤ maxLen) :
    Calls Tryz.prog 5 #[.slice A 3 c] w fun e w' => e = .returned (.bool (longF p || longF v || longF r)) ∧ Below w.heap.size w w' := by
  have HC := Lib.hid (containsF_any 17 longF A 3 c [p, v, r] w (enters_of Tryz.func17 (by kernel_rfl) rfl) (fun W x hx hb => long1_any x W (hl x hx).1 (hl x hx).2) hs (by omega))
  rw [show [p, v, r].any longF = (longF p || longF v || longF r) by simp [Bool.or_assoc]] at HC
  generalize (longF p || longF v || longF r) = bb at *
  clear hs hl
  go_enter Tryz.func5, Tryz.ntmps5
  go_wp2_with fail
  refine HC.out.mono ?_
  rintro e w1 ⟨rfl, hb1⟩
  go_wp2_with fail
  go_ret
  exact ⟨rfl, hb1⟩
/-- The plain law. -/
theorem price_case (b v r : Fr) : ((priceL b v r).2 ≠ 0 ∧ (priceL b v r).1 = Fr.zero) ∨
    ((priceL b v r).2 = 0 ∧ (priceL b v r).1 = frOf (b.rat - v.rat * r.rat) ∧ frOf (b.rat - v.rat * r.rat + v.rat * r.rat) = b ∧ shareL (frOf (b.rat - v.rat * r.rat)) v r = quoL (v.rat * r.rat) b.rat ∧ (b.rat ≠ 0 → cmpR (v.rat * r.rat / b.rat) 1 ≤ 0)) := by
  unfold priceL
  by_cases hc : chkS b v r = 0
  · rw [if_pos hc]
    by_cases hn : b.rat - v.rat * r.rat < 0
    · rw [if_pos hn]; exact .inl ⟨by simp, rfl⟩
    · rw [if_neg hn]
      have hok : b.ok ∧ v.ok ∧ r.ok ∧ ¬ (b.rat < 0 ∨ v.rat < 0 ∨ r.rat < 0 ∨ r = Fr.zero) := by
        unfold chkS at hc
        split at hc
        · rename_i h
          split at hc
          · cases hc
          · rename_i h2; exact ⟨h.1, h.2.1, h.2.2, h2⟩
        · cases hc
      obtain ⟨h1, h2, h3, h4⟩ := hok
      simp only [not_or, Rat.not_lt] at h4
      have hx : 0 ≤ b.rat - v.rat * r.rat := Rat.not_lt.1 hn
      have hg : 0 ≤ v.rat * r.rat := Rat.mul_nonneg h4.2.1 h4.2.2.1
      refine .inr ⟨rfl, rfl, ?_, ?_, ?_⟩
      · rw [Rat.sub_add_cancel]; exact h1.symm
      · unfold shareL
        rw [if_pos, rat_frOf, Rat.sub_add_cancel]
        unfold chkS
        rw [if_pos ⟨frOf_ok _, h2, h3⟩, if_neg]
        rw [rat_frOf]
        simp only [not_or, Rat.not_lt]
        exact ⟨hx, h4.2.1, h4.2.2.1, h4.2.2.2⟩
      · intro hb0
        have hbp : 0 < b.rat := Rat.lt_of_le_of_ne h4.1 (fun h => hb0 h.symm)
        unfold cmpR
        split
        · omega
        · rw [if_neg]
          · omega
          · rw [Rat.lt_div_iff hbp, Rat.one_mul, Rat.not_lt, Rat.le_iff_sub_nonneg]
            exact hx
  · rw [if_neg hc]; exact .inl ⟨hc, rfl⟩
/-- Three fractions in blocks of their own. -/
structure FrT (w : World) (p : Nat) (f g h : Fr) (W : World) : Prop where
  a : FrB W p f
  b : FrB W (p + 1) g
  c : FrB W (p + 1 + 1) h
  bl : Below w.heap.size w W
  hp : w.heap.size ≤ p
theorem FrT.here {w : World} {p : Nat} {f g h : Fr} {W W' : World} (H : FrT w p f g h W) (hb : Below W.heap.size W W') : FrT w p f g h W' := ⟨H.a.here hb, H.b.here hb, H.c.here hb, H.bl.trans (hb.mono H.bl.size), H.hp⟩
theorem FrT.new (w : World) (f g h : Fr) : FrT w w.heap.size f g h (((w.alloc (.cells #[.string ⟨f.n.toArray⟩, .string ⟨f.d.toArray⟩] 24)).alloc (.cells #[.string ⟨g.n.toArray⟩, .string ⟨g.d.toArray⟩] 24)).alloc (.cells #[.string ⟨h.n.toArray⟩, .string ⟨h.d.toArray⟩] 24)) := by
  refine ⟨((FrB.new w f).alloc _).alloc _, ?_, ?_, (((Below.refl _ _).alloc (Nat.le_refl _) _).alloc (by simp) _).alloc (by simp; omega) _, Nat.le_refl _⟩
  · have := (FrB.new (w.alloc (.cells #[.string ⟨f.n.toArray⟩, .string ⟨f.d.toArray⟩] 24)) g).alloc (.cells #[.string ⟨h.n.toArray⟩, .string ⟨h.d.toArray⟩] 24)
    simp only [World.size_alloc] at this
    exact this
  · have := FrB.new ((w.alloc (.cells #[.string ⟨f.n.toArray⟩, .string ⟨f.d.toArray⟩] 24)).alloc (.cells #[.string ⟨g.n.toArray⟩, .string ⟨g.d.toArray⟩] 24)) h
    simp only [World.size_alloc] at this
    exact this
def TruePost (w : World) (e : Ending) (w' : World) : Prop := e = .returned (.bool true) ∧ Below w.heap.size w w'
set_option maxRecDepth 100000 in
set_option maxHeartbeats 2000000 in
theorem values_law (b v r : Fr) (w : World) (hp : Pow w) (hl : ∀ x ∈ [b, v, r], x.n.length ≤ maxLen ∧ x.d.length ≤ maxLen) : Calls Tryz.prog 4 #[FrV b, FrV v, FrV r] w (TruePost w) := by
  have H3 := Lib.hid (FrT.new w b v r)
  have HP := Lib.hid hp; have HL := Lib.hid hl
  obtain ⟨x0, x1⟩ := H3.out.a.cells
  obtain ⟨y0, y1⟩ := H3.out.b.cells
  obtain ⟨z0, z1⟩ := H3.out.c.cells
  have HPO := Lib.hid (show TruePost w = fun e w' => e = .returned (.bool true) ∧ Below w.heap.size w w' from rfl)
  have HAW := Lib.hid (fun W (hb : Below w.heap.size w W) => awake_any W (hp.here hb))
  generalize TruePost w = post at *
  clear hp hl
  unfold FrV at *
  unfold S at *
  go_enter Tryz.func4, Tryz.ntmps4
  go_upto_region 1 with (fail)
  generalize (((w.alloc (.cells #[.string ⟨b.n.toArray⟩, .string ⟨b.d.toArray⟩] 24)).alloc (.cells #[.string ⟨v.n.toArray⟩, .string ⟨v.d.toArray⟩] 24)).alloc (.cells #[.string ⟨r.n.toArray⟩, .string ⟨r.d.toArray⟩] 24)) = W at *
  have HSL := Lib.hid (three_sl W b v r)
  have HLO := Lib.hid (fun c => long_any (some ⟨W.heap.size, 0, none⟩) c b v r (W.alloc (.cells #[.string ⟨b.n.toArray⟩, .string ⟨b.d.toArray⟩, .string ⟨v.n.toArray⟩, .string ⟨v.d.toArray⟩, .string ⟨r.n.toArray⟩, .string ⟨r.d.toArray⟩] 24)) (by have := HSL.out; simpa using this) HL.out)
  have HSZ := Lib.hid (show (longF b || longF v || longF r) = false → b.Sz 10 ∧ v.Sz 10 ∧ r.Sz 10 by
    intro h
    simp only [Bool.or_eq_false_iff] at h
    exact ⟨longF_no h.1.1, longF_no h.1.2, longF_no h.2⟩)
  generalize (longF b || longF v || longF r) = lg at *
  go_wp2_with fail
  refine (HLO.out _).mono ?_
  rintro e w1 ⟨rfl, hb1⟩
  have hbW1 : Below W.heap.size W w1 := ((Below.refl _ W).alloc (Nat.le_refl _) _).trans (hb1.mono (by simp))
  have H4 := Lib.hid (H3.out.here hbW1)
  clear x0 x1 y0 y1 z0 z1 hb1 HSL HLO HL
  obtain ⟨x0, x1⟩ := H4.out.a.cells
  obtain ⟨y0, y1⟩ := H4.out.b.cells
  obtain ⟨z0, z1⟩ := H4.out.c.cells
  cases lg with
  | true =>
    clear HSZ
    go_wp2_with fail
    refine (HAW.out _ H4.out.bl).mono ?_
    rintro e w2 ⟨rfl, hb2⟩
    go_wp2_with fail
    rw [HPO.out]
    exact ⟨rfl, (H4.out.here hb2).bl⟩
  | false =>
    obtain ⟨sb, sv_, sr⟩ := HSZ.out rfl
    have HPR := Lib.hid (Price_any b v r w1 (HP.out.here H4.out.bl) (sb.more (by omega)) (sv_.more (by omega)) (sr.more (by omega)))
    have HPC := Lib.hid (price_case b v r)
    have hgs : (frOf (v.rat * r.rat)).Sz 21 := mul_sz sv_ sr (by omega)
    have hps : (frOf (b.rat - v.rat * r.rat)).Sz 44 := by
      have := sub_sz (sb.more (show 10 ≤ 21 by omega)) hgs (by omega)
      rwa [rat_frOf] at this
    have HMU := Lib.hid (fun W (hb : Below w.heap.size w W) => fMul_any v r W (HP.out.here hb) (sv_.more (by omega)) (sr.more (by omega)))
    have HAD := Lib.hid (fun W (hb : Below w.heap.size w W) => fAdd_any (frOf (b.rat - v.rat * r.rat)) (frOf (v.rat * r.rat)) W (HP.out.here hb) (hps.more (by omega)) (hgs.more (by omega)))
    rw [rat_frOf, rat_frOf] at HAD
    have HSH := Lib.hid (fun W (hb : Below w.heap.size w W) => Share_any (frOf (b.rat - v.rat * r.rat)) v r W (HP.out.here hb) (hps.more (by omega)) (sv_.more (by omega)) (sr.more (by omega)))
    have HQU := Lib.hid (fun W (hb : Below w.heap.size w W) => fQuo_any (frOf (v.rat * r.rat)) b W (HP.out.here hb) (hgs.more (by omega)) (sb.more (by omega)))
    rw [rat_frOf] at HQU
    have HOF := Lib.hid (fun W (hb : Below w.heap.size w W) => fOf_any [49] W (HP.out.here hb) (by simp))
    have HRZ := Lib.hid (fun (h : b.rat ≠ 0) => show (frOf (v.rat * r.rat / b.rat)).Sz 43 by
      have h2 : val b.n ≠ 0 := fun h3 => h ((rat_eq_zero b).2 h3)
      have := frOf_sz (rb_div hgs (sb.more (show 10 ≤ 21 by omega)) (by omega) h2)
      rwa [rat_frOf] at this)
    have HQC := Lib.hid (quoL_case (v.rat * r.rat) b.rat)
    clear HSZ sb sv_ sr hgs hps
    generalize priceL b v r = pl at *
    obtain ⟨pf, pe⟩ := pl
    unfold FrV at *
    unfold S at *
    go_wp2_with fail
    refine HPR.out.mono ?_
    rintro e w2 ⟨rfl, hb2⟩
    unfold FrV S
    have H5 := Lib.hid (H4.out.here hb2)
    have hbA := (Below.refl w2.heap.size w2).alloc (Nat.le_refl _) (.cells #[.string ⟨pf.n.toArray⟩, .string ⟨pf.d.toArray⟩] 24)
    have H6 := Lib.hid (H5.out.here hbA)
    have HPB := Lib.hid (FrB.new w2 pf)
    clear x0 x1 y0 y1 z0 z1
    rcases HPC.out with ⟨hpe, hpf⟩ | ⟨hpe, hpf, hadd, hsh, hcm⟩
    · have hpb : (pe != 0) = true := by simpa using hpe
      obtain rfl : pf = Fr.zero := hpf
      clear hpe HPC
      have HPB' := Lib.hid (show FrB (w2.alloc (.cells #[.string ⟨#[]⟩, .string ⟨#[]⟩] 24)) w2.heap.size Fr.zero from HPB.out)
      obtain ⟨n0, n1⟩ := HPB'.out.cells
      go_wp2_with fail
      refine (HAW.out _ (by exact H6.out.bl)).mono ?_
      rintro e w3 ⟨rfl, hb3⟩
      go_wp2_with fail
      rw [HPO.out]
      exact ⟨rfl, (H6.out.here hb3).bl⟩
    · obtain rfl : pe = 0 := hpe
      obtain rfl : pf = frOf (b.rat - v.rat * r.rat) := hpf
      have HADD := Lib.hid hadd; have HCM := Lib.hid hcm
      rw [hsh] at HSH
      rw [hadd] at HAD
      clear HPC hadd hcm hsh
      generalize frOf (b.rat - v.rat * r.rat) = pf at *
      generalize frOf (v.rat * r.rat) = gf at *
      generalize hqq : quoL (v.rat * r.rat) b.rat = qq at *
      obtain ⟨res, qe⟩ := qq
      have HQQ := Lib.hid (show (qe = 10) ∨ (qe = 0 ∧ b.rat ≠ 0 ∧ res = frOf (v.rat * r.rat / b.rat)) by
        rcases HQC.out with ⟨_, h⟩ | ⟨h0, h⟩
        · injection h with h1 h2; exact .inl h2
        · injection h with h1 h2; exact .inr ⟨h2, h0, h1⟩)
      clear hqq HQC
      obtain ⟨n0, n1⟩ := HPB.out.cells
      obtain ⟨x0, x1⟩ := H6.out.a.cells
      obtain ⟨y0, y1⟩ := H6.out.b.cells
      obtain ⟨z0, z1⟩ := H6.out.c.cells
      go_wp2_with fail
      generalize w2.alloc (.cells #[.string ⟨pf.n.toArray⟩, .string ⟨pf.d.toArray⟩] 24) = W3 at *
      refine (HMU.out _ H6.out.bl).mono ?_
      rintro e w4 ⟨rfl, hb4⟩
      unfold FrV S
      have hbB := (Below.refl w4.heap.size w4).alloc (Nat.le_refl _) (.cells #[.string ⟨gf.n.toArray⟩, .string ⟨gf.d.toArray⟩] 24)
      have H7 := Lib.hid ((H6.out.here hb4).here hbB)
      have HPB7 := Lib.hid ((HPB.out.here hb4).here hbB)
      have HGB7 := Lib.hid (FrB.new w4 gf)
      clear x0 x1 y0 y1 z0 z1 n0 n1
      go_upto_region 7 with (fail)
      generalize w4.alloc (.cells #[.string ⟨gf.n.toArray⟩, .string ⟨gf.d.toArray⟩] 24) = W5 at *
      obtain ⟨x0, x1⟩ := H7.out.a.cells
      obtain ⟨n0, n1⟩ := HPB7.out.cells
      obtain ⟨g0, g1⟩ := HGB7.out.cells
      have hbn : (b.n == b.n) = true := by simp
      have hbd : (b.d == b.d) = true := by simp
      go_cut [42] (fun s wc => s = .bool false ∧ Hid (FrT w w.heap.size b v r wc) ∧ Hid (FrB wc w2.heap.size pf) ∧ Hid (FrB wc w4.heap.size gf))
      case first =>
        go_region_held3 (fun w' => w'.cell? ⟨w.heap.size, 0, none⟩ = some (.string ⟨b.n.toArray⟩) ∧ w'.cell? ⟨w.heap.size, 1, none⟩ = some (.string ⟨b.d.toArray⟩) ∧ w'.cell? ⟨w2.heap.size, 0, none⟩ = some (.string ⟨pf.n.toArray⟩) ∧ w'.cell? ⟨w2.heap.size, 1, none⟩ = some (.string ⟨pf.d.toArray⟩) ∧ w'.cell? ⟨w4.heap.size, 0, none⟩ = some (.string ⟨gf.n.toArray⟩) ∧ w'.cell? ⟨w4.heap.size, 1, none⟩ = some (.string ⟨gf.d.toArray⟩))
          (first
            | exact ⟨(H7.out.here hz).a.cells.1, (H7.out.here hz).a.cells.2, (HPB7.out.here hz).cells.1, (HPB7.out.here hz).cells.2, (HGB7.out.here hz).cells.1, (HGB7.out.here hz).cells.2⟩
            | go_keep)
          (first
            | (go_at_call 12; refine (HAD.out _ (H7.out.here (Below.refl _ W5).drew).bl).mono ?_; rintro e w6 ⟨rfl, hb6⟩; unfold FrV S; have hz : Below W5.heap.size W5 w6 := (Below.refl _ W5).drew.trans hb6))
        all_goals
          go_wp2_with fail
          go_meet
          exact ⟨rfl, H7.out.here hz, HPB7.out.here hz, HGB7.out.here hz⟩
      case rest =>
      clear x0 x1 n0 n1 g0 g1 hbn hbd HPB7 HGB7
      obtain ⟨rfl, H8, HPB8, HGB8⟩ := hcut
      obtain ⟨w6, rfl⟩ : ∃ W, W = wc := ⟨_, rfl⟩
      obtain ⟨x0, x1⟩ := H8.out.a.cells
      obtain ⟨y0, y1⟩ := H8.out.b.cells
      obtain ⟨z0, z1⟩ := H8.out.c.cells
      obtain ⟨n0, n1⟩ := HPB8.out.cells
      go_wp2_with fail
      refine (HSH.out _ H8.out.bl).mono ?_
      rintro e w7 ⟨rfl, hb7⟩
      unfold FrV S
      have hbC := (Below.refl w7.heap.size w7).alloc (Nat.le_refl _) (.cells #[.string ⟨res.n.toArray⟩, .string ⟨res.d.toArray⟩] 24)
      have H9 := Lib.hid ((H8.out.here hb7).here hbC)
      have HGB9 := Lib.hid ((HGB8.out.here hb7).here hbC)
      have HRB9 := Lib.hid (FrB.new w7 res)
      clear x0 x1 y0 y1 z0 z1 n0 n1
      obtain ⟨x0, x1⟩ := H9.out.a.cells
      obtain ⟨g0, g1⟩ := HGB9.out.cells
      go_wp2_with fail
      generalize w7.alloc (.cells #[.string ⟨res.n.toArray⟩, .string ⟨res.d.toArray⟩] 24) = W8 at *
      refine (HQU.out _ H9.out.bl).mono ?_
      rintro e w9 ⟨rfl, hb9⟩
      unfold FrV S
      have hbD := (Below.refl w9.heap.size w9).alloc (Nat.le_refl _) (.cells #[.string ⟨res.n.toArray⟩, .string ⟨res.d.toArray⟩] 24)
      have H10 := Lib.hid ((H9.out.here hb9).here hbD)
      have HRB10 := Lib.hid ((HRB9.out.here hb9).here hbD)
      have HWB10 := Lib.hid (FrB.new w9 res)
      clear x0 x1 g0 g1
      rcases HQQ.out with hq | ⟨hq, hb0, hres⟩
      · subst hq
        go_wp2_with fail
        refine (HAW.out _ (by exact H10.out.bl)).mono ?_
        rintro e w11 ⟨rfl, hb11⟩
        go_wp2_with fail
        rw [HPO.out]
        exact ⟨rfl, (H10.out.here hb11).bl⟩
      · subst hq
        have HRS := Lib.hid (show res.Sz 43 by rw [hres]; exact HRZ.out hb0)
        have HCR := Lib.hid (show cmpR res.rat 1 ≤ 0 by rw [hres, rat_frOf]; exact HCM.out hb0)
        have HCP := Lib.hid (fun W (hb : Below w.heap.size w W) => fCompare_any res (frOf ((val [49] : Int) : Rat)) W (HP.out.here hb) (HRS.out.more (by omega)) (by
          rw [one_val]
          refine Fr.Sz.more (L := 2) ?_ (by omega)
          have : frOf ((1 : Int) : Rat) = ⟨[49], []⟩ := fr_nat (n := 1) (by decide) (hd_ok (by decide)) (by decide)
          rw [this]
          exact ⟨by simp, by simp⟩))
        rw [rat_frOf, one_val, show ((1 : Int) : Rat) = 1 from rfl] at HCP
        rw [one_val] at HOF
        generalize hof : frOf ((1 : Int) : Rat) = of1 at *
        generalize cmpR res.rat 1 = cc at *
        have hccd := HCR.out
        clear hof hres hb0 HRZ HCM
        have hcc2 : decide (cc ≤ 0) = true := by simpa using hccd
        have hrn : (res.n == res.n) = true := by simp
        have hrd : (res.d == res.d) = true := by simp
        unfold FrV at HCP
        unfold S at HCP
        obtain ⟨n0, n1⟩ := HRB10.out.cells
        obtain ⟨g0, g1⟩ := HWB10.out.cells
        go_upto_region 13 with (fail)
        generalize w9.alloc (.cells #[.string ⟨res.n.toArray⟩, .string ⟨res.d.toArray⟩] 24) = W10 at *
        go_region_held3 (fun w' => w'.cell? ⟨w7.heap.size, 0, none⟩ = some (.string ⟨res.n.toArray⟩) ∧ w'.cell? ⟨w7.heap.size, 1, none⟩ = some (.string ⟨res.d.toArray⟩) ∧ w'.cell? ⟨w9.heap.size, 0, none⟩ = some (.string ⟨res.n.toArray⟩) ∧ w'.cell? ⟨w9.heap.size, 1, none⟩ = some (.string ⟨res.d.toArray⟩))
          (first
            | exact ⟨(HRB10.out.here hz3).cells.1, (HRB10.out.here hz3).cells.2, (HWB10.out.here hz3).cells.1, (HWB10.out.here hz3).cells.2⟩
            | exact ⟨(HRB10.out.here hz2).cells.1, (HRB10.out.here hz2).cells.2, (HWB10.out.here hz2).cells.1, (HWB10.out.here hz2).cells.2⟩
            | exact ⟨(HRB10.out.here hz).cells.1, (HRB10.out.here hz).cells.2, (HWB10.out.here hz).cells.1, (HWB10.out.here hz).cells.2⟩
            | go_keep)
          (first
            | (go_at_call 15; refine (HOF.out _ (H10.out.here (Below.refl _ W10).drew).bl).mono ?_; rintro e w11 ⟨rfl, hb11⟩; unfold FrV S; have hz : Below W10.heap.size W10 w11 := (Below.refl _ W10).drew.trans hb11)
            | (go_at_call 14; refine (HCP.out _ (H10.out.here hz).bl).mono ?_; rintro e w12 ⟨rfl, hb12⟩; have hz2 : Below W10.heap.size W10 w12 := hz.trans (hb12.mono hz.size))
            | (go_at_call 6; refine (HAW.out _ (H10.out.here hz2).bl).mono ?_; rintro e w13 ⟨rfl, hb13⟩; have hz3 : Below W10.heap.size W10 w13 := hz2.trans (hb13.mono hz2.size)))
        all_goals
          go_wp2_with fail
          rw [HPO.out]
          exact ⟨rfl, (H10.out.here hz3).bl⟩
end Go.Proofs.YtaiikjgoofefgaaGreatDoor
