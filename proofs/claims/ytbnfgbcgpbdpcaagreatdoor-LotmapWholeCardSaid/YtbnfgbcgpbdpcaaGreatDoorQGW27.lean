/- Merged texts: Pt, Wf, LW. -/
import Derived.Test.YtbnfgbcgpbdpcaaGreatDoorQGW12
import Derived.Deep.RegionHeld3
import Derived.Deep.DrawnRows
import Derived.Deep.DeepCutAuto
import Derived.Test.YtbnfgbcgpbdpcaaGreatDoorQGW21
import Derived.Test.YtbnfgbcgpbdpcaaGreatDoorQGW26
import Derived.Deep.QuietTactic
import Derived.BigQuiet
/- Contract of lotmap.Parts, at a quantity and a ratio that are valid. -/
namespace Go.Proofs.YtbnfgbcgpbdpcaaGreatDoor
open Go.RowKit Go.Shelf
attribute [local go_sem ↓] Go.wp_at_zero Go.wp_at_succ

def PartsPost (q : Rat) (w : World) (e : Ending) (w' : World) : Prop := e = .returned (.tuple #[S (txtL (flo q)), FrV (frOf (q - ((flo q : Int) : Rat))), .int .i64 0]) ∧ Below w.heap.size w w'
set_option maxRecDepth 20000 in
set_option maxHeartbeats 4000000 in
theorem parts_ok (q : List UInt8) (f : Fr) (w : World) (hp : Env w) (hq : q = txtL (val q)) (hql : q.length ≤ 200) (hf : f.ok) (hfz : f.Sz 200) (h0 : 0 ≤ val q) (h1 : 0 < f.rat) :
    Calls Tryz.prog 14 #[S q, FrV f] w (PartsPost (((val q : Int) : Rat) * f.rat) w) := by
  have HPO := Lib.hid (show PartsPost (((val q : Int) : Rat) * f.rat) w = fun e w' => e = .returned (.tuple #[S (txtL (flo (((val q : Int) : Rat) * f.rat))), FrV (frOf (((val q : Int) : Rat) * f.rat - ((flo (((val q : Int) : Rat) * f.rat) : Int) : Rat))), .int .i64 0]) ∧ Below w.heap.size w w' from rfl)
  generalize PartsPost (((val q : Int) : Rat) * f.rat) w = post at *
  have HIC := Lib.hid (iCheck_any q (by omega))
  rw [if_pos hq] at HIC
  have HFC := Lib.hid (fun W hW => fCheck_any f W hW (hfz.more (by omega)))
  rw [show chkF f = 0 from if_pos hf] at HFC
  have HCM := Lib.hid (fun W => Compare_any q [] W (by omega) (by simp))
  rw [val_nil, Int.sub_zero] at HCM
  have hs0 : decide (sgnI (val q) < 0) = false := by
    unfold sgnI
    rw [if_neg (by omega)]
    split <;> decide
  have HSG := Lib.hid (mSign_any f (hfz.more (by omega)))
  have hs1 : decide (cmpR f.rat 0 ≤ 0) = false := by
    unfold cmpR
    rw [if_neg (Rat.not_lt.2 (Rat.le_of_lt h1)), if_pos h1]
    decide
  have hqv := val_lt' hql
  have HOF := Lib.hid (fun W hW => fOf_any q W hW (by omega))
  have hz1 : (frOf ((val q : Int) : Rat)).Sz 201 := by rw [frOf_int]; exact ⟨txtL_length hqv, by simp⟩
  have HMU := Lib.hid (fun W hW => fMul_any (frOf ((val q : Int) : Rat)) f W hW (hz1.more (by omega)) (hfz.more (by omega)))
  rw [rat_frOf] at HMU
  have hz2 : (frOf (((val q : Int) : Rat) * f.rat)).Sz 1000 := by
    have := frOf_sz (rb_mul (hz1.more (show 201 ≤ 201 by omega)) (hfz.more (show 200 ≤ 201 by omega)) (by omega))
    rw [rat_frOf] at this
    exact this.more (by omega)
  have HWH := Lib.hid (mWhole_any (frOf (((val q : Int) : Rat) * f.rat)) (hz2.more (by omega)))
  rw [rat_frOf] at HWH
  have H := Lib.hid (show Kp w [(w.heap.size + 1, #[.string ⟨#[]⟩, .string ⟨#[]⟩], 26), (w.heap.size, #[.string ⟨f.n.toArray⟩, .string ⟨f.d.toArray⟩], 26)] ((w.alloc (.cells #[.string ⟨f.n.toArray⟩, .string ⟨f.d.toArray⟩] 26)).alloc (.cells #[.string ⟨#[]⟩, .string ⟨#[]⟩] 26)) from ((Kp.start hp).new w.heap.size rfl _ _).new (w.heap.size + 1) (by simp) _ _)
  generalize cmpR f.rat 0 = z1 at *
  generalize sgnI (val q) = z0 at *
  generalize frOf (((val q : Int) : Rat) * f.rat - ((flo (((val q : Int) : Rat) * f.rat) : Int) : Rat)) = pt at *
  generalize txtL (flo (((val q : Int) : Rat) * f.rat)) = tn at *
  generalize frOf (((val q : Int) : Rat) * f.rat) = fm at *
  generalize frOf ((val q : Int) : Rat) = fq at *
  have hs0i : ¬ z0 < 0 := by simpa using hs0
  have hs1i : ¬ z1 ≤ 0 := by simpa using hs1
  clear hp hq hql hf hfz h0 h1 hqv hz1 hz2
  unfold FrV S at *
  go_enter Tryz.func14, Tryz.ntmps14
  go_wp2_with fail
  generalize ((w.alloc (.cells #[.string ⟨f.n.toArray⟩, .string ⟨f.d.toArray⟩] 26)).alloc (.cells #[.string ⟨#[]⟩, .string ⟨#[]⟩] 26)) = W0 at *
  refine (HIC.out _ H.out.pw).mono ?_
  rintro e w1 ⟨rfl, hb1⟩
  have H1 := Lib.hid (H.out.here hb1)
  clear hb1 H
  have x0 := H1.out.c 1 0 rfl rfl; have x1 := H1.out.c 1 1 rfl rfl
  go_wp2_with fail
  refine (HFC.out _ H1.out.po).mono ?_
  rintro e w2 ⟨rfl, hb2⟩
  have H2 := Lib.hid (H1.out.here hb2)
  clear hb2 H1 x0 x1
  go_wp2_with fail
  refine (HCM.out _).mono ?_
  rintro e w3 ⟨rfl, hb3⟩
  have H3 := Lib.hid (H2.out.here hb3)
  clear hb3 H2
  have x0 := H3.out.c 1 0 rfl rfl; have x1 := H3.out.c 1 1 rfl rfl
  go_wp2_with fail
  refine (HSG.out _ H3.out.pw).mono ?_
  rintro e w4 ⟨rfl, hb4⟩
  have H4 := Lib.hid (H3.out.here hb4)
  clear hb4 H3 x0 x1
  go_upto_region 5 with (fail)
  have HRT := Lib.hid (show ∀ X bs i, Kp w bs X → bs[i]? = some (w.heap.size, #[.string ⟨f.n.toArray⟩, .string ⟨f.d.toArray⟩], 26) → X.cell? ⟨w.heap.size, 0, none⟩ = some (.string ⟨f.n.toArray⟩) ∧ X.cell? ⟨w.heap.size, 1, none⟩ = some (.string ⟨f.d.toArray⟩) from fun X bs i h hb => ⟨h.c i 0 hb rfl, h.c i 1 hb rfl⟩)
  have HPA := Lib.hid ((H4.out.new w4.heap.size rfl #[.string ⟨#[]⟩, .string ⟨#[]⟩] 26).drew)
  go_cut [7, 8] (fun s p wc => s = .string ⟨tn.toArray⟩ ∧ ∃ P8, p = .pointer (some ⟨P8, 0, none⟩) ∧ Hid (Kp w ((P8, #[.string ⟨pt.n.toArray⟩, .string ⟨pt.d.toArray⟩], 26) :: [(w.heap.size + 1, #[.string ⟨#[]⟩, .string ⟨#[]⟩], 26), (w.heap.size, #[.string ⟨f.n.toArray⟩, .string ⟨f.d.toArray⟩], 26)]) wc))
  case first =>
    obtain ⟨s00, s01⟩ := HRT.out _ _ 1 H4.out rfl
    have s0a := HRT.out _ _ 2 HPA.out rfl
    go_region_held3 (fun X => X.cell? ⟨w.heap.size, 0, none⟩ = some (.string ⟨f.n.toArray⟩) ∧ X.cell? ⟨w.heap.size, 1, none⟩ = some (.string ⟨f.d.toArray⟩))
      (first
        | with_reducible exact s4
        | with_reducible exact s3a
        | with_reducible exact s3
        | with_reducible exact s2a
        | with_reducible exact s2
        | with_reducible exact s1a
        | with_reducible exact s1
        | with_reducible exact s0a
        | go_keep)
      (first
        | (go_at_call 44; first
            | (refine (HOF.out _ H4.out.drew.po).mono ?_; rintro e y1 ⟨rfl, hy⟩; try unfold FrV S
               have g1 := H4.out.drew.here hy
               have s1 := HRT.out _ _ 1 g1 rfl
               have g1a := g1.new y1.heap.size rfl #[.string ⟨#[]⟩, .string ⟨#[]⟩] 26
               have s1a := HRT.out _ _ 2 g1a rfl)
            | (refine (HOF.out _ HPA.out.po).mono ?_; rintro e y1 ⟨rfl, hy⟩; try unfold FrV S
               have g1 := HPA.out.here hy
               have s1 := HRT.out _ _ 2 g1 rfl))
        | (go_at_call 21; first
            | (refine (HMU.out _ g1.po).mono ?_; rintro e y2 ⟨rfl, hy⟩; try unfold FrV S
               have g2 := g1.here hy)
            | (refine (HMU.out _ g1a.po).mono ?_; rintro e y2 ⟨rfl, hy⟩; try unfold FrV S
               have g2 := g1a.here hy)
           first
            | (have s2 := HRT.out _ _ 1 g2 rfl
               have g2a := g2.new y2.heap.size rfl #[.string ⟨#[]⟩, .string ⟨#[]⟩] 26
               have s2a := HRT.out _ _ 2 g2a rfl)
            | (have s2 := HRT.out _ _ 2 g2 rfl))
        | (go_at_call 43; first
            | (refine (HWH.out _ g2.pw).mono ?_; rintro e y3 ⟨rfl, hy⟩; try unfold FrV S
               have g3 := g2.here hy)
            | (refine (HWH.out _ g2a.pw).mono ?_; rintro e y3 ⟨rfl, hy⟩; try unfold FrV S
               have g3 := g2a.here hy)
           first
            | (have s3 := HRT.out _ _ 1 g3 rfl
               have g3a := g3.new y3.heap.size rfl #[.string ⟨#[]⟩, .string ⟨#[]⟩] 26
               have s3a := HRT.out _ _ 2 g3a rfl
               have g4 := (g3a.set 0 0 rfl (.string ⟨pt.n.toArray⟩)).set 0 1 rfl (.string ⟨pt.d.toArray⟩)
               have s4 := HRT.out _ _ 2 g4 rfl)
            | (have s3 := HRT.out _ _ 2 g3 rfl
               have n0 := g3.c 0 0 rfl rfl; have n1 := g3.c 0 1 rfl rfl
               have f0 := g3.f 0 0 rfl; have f1 := g3.f 0 1 rfl
               have g4 := (g3.set 0 0 rfl (.string ⟨pt.n.toArray⟩)).set 0 1 rfl (.string ⟨pt.d.toArray⟩)
               have s4 := HRT.out _ _ 2 g4 rfl)))
    all_goals
      go_wp2_with fail
      go_meet
      first
        | exact ⟨rfl, _, rfl, g4⟩
        | exact ⟨rfl, _, rfl, g3.new _ rfl _ _⟩
  case rest =>
  obtain ⟨rfl, P8, rfl, H5⟩ := hcut
  clear H4 HPA HRT
  have k0 := H5.out.c 0 0 rfl rfl; have k1 := H5.out.c 0 1 rfl rfl
  have n0 := H5.out.c 1 0 rfl rfl; have n1 := H5.out.c 1 1 rfl rfl
  have f0 := H5.out.f 1 0 rfl; have f1 := H5.out.f 1 1 rfl
  have HE := Lib.hid (((H5.out.set 1 0 rfl (.string ⟨pt.n.toArray⟩)).set 1 1 rfl (.string ⟨pt.d.toArray⟩)).drew)
  obtain ⟨r0, r1⟩ : _ ∧ _ := ⟨HE.out.c 0 0 rfl rfl, HE.out.c 0 1 rfl rfl⟩
  have m0 := HE.out.c 1 0 rfl rfl; have m1 := HE.out.c 1 1 rfl rfl
  go_upto_region 6 with (fail)
  go_region_held3 (fun X => X.cell? ⟨P8, 0, none⟩ = some (.string ⟨pt.n.toArray⟩) ∧ X.cell? ⟨P8, 1, none⟩ = some (.string ⟨pt.d.toArray⟩))
    (first
      | with_reducible exact ⟨r0, r1⟩
      | go_keep)
    (fail)
  all_goals
    go_wp2_with fail
    refine bodyPost_ret (v := .tuple #[.string ⟨tn.toArray⟩, .agg #[.string ⟨pt.n.toArray⟩, .string ⟨pt.d.toArray⟩], .int .i64 0]) (by simp [results, Tryz.results14, go_sem, m0, m1]) rfl ?_
    rw [HPO.out]
    exact ⟨rfl, HE.out.bl⟩
end Go.Proofs.YtbnfgbcgpbdpcaaGreatDoor
/- The law LotmapWhole: plain facts that its walk asks for. -/
namespace Go.Proofs.YtbnfgbcgpbdpcaaGreatDoor
open Go.RowKit Go.Shelf

/-- What remains of a lot's quantity. -/
def restQ (m : Mp) (y : Lot) : Rat := ((val y.q : Int) : Rat) * m.ratio.rat - ((flo (((val y.q : Int) : Rat) * m.ratio.rat) : Int) : Rat)
theorem frOf_nzW {q : Rat} (h : q ≠ 0) : ((frOf q).n == []) = false := by
  rw [Bool.eq_false_iff]
  intro e
  have h1 : txtL q.num = [] := eq_of_beq e
  have h2 := txtL_nil.1 h1
  exact h (Rat.num_eq_zero.1 h2)
theorem whole_facts {ls : List Lot} {m : Mp} (h0 : (mapL ls m).2 = 0) (hk : m.keep = false) (hw : ∀ y ∈ lotsOf ls m.inst, restQ m y = 0) :
    (mapL ls m).1.gains.length = 0 ∧ (newOf ls (mapL ls m).1.lots).length = (lotsOf ls m.inst).length ∧ ∀ (i : Nat) (y : Lot), (lotsOf ls m.inst)[i]? = some y → ∃ z, (newOf ls (mapL ls m).1.lots)[i]? = some z ∧ z.q = txtL (flo (((val y.q : Int) : Rat) * m.ratio.rat)) ∧ z.c = y.c ∧ z.acq = y.acq ∧ z.opn = y.opn := by
  rcases mapL_case ls m with ⟨e, he, h'⟩ | ⟨hl, hm, ho', h'⟩ | ⟨A, B, hM, h'⟩
  · rw [h'] at h0; exact absurd h0 he
  · rw [h', ho']
    refine ⟨rfl, by show (newOf ls ls).length = _; rw [new_self], fun i y h => by simp at h⟩
  · rw [h']
    obtain ⟨w1, w2, w3⟩ := whole_made (lotsOf_ok hM.ok m.inst) hM.mp hM.old hk hw
    refine ⟨by show (gainL m (planL (lotsOf ls m.inst) m) (lotsOf ls m.inst)).length = 0; rw [w1]; rfl, ?_, fun i y h => ?_⟩
    · show (newOf ls (A ++ mdO ls m ++ B)).length = _
      rw [hM.new]; exact w2
    · obtain ⟨hi, rfl⟩ := List.getElem?_eq_some_iff.1 h
      obtain ⟨z, hz, q1, q2, q3, q4⟩ := w3 i hi
      refine ⟨z, ?_, q1, q2, q3, q4⟩
      show (newOf ls (A ++ mdO ls m ++ B))[i]? = _
      rw [hM.new]; exact hz
theorem old_facts {ls : List Lot} {m : Mp} (h0 : (mapL ls m).2 = 0) : m.ratio.ok ∧ 0 < m.ratio.rat ∧ ∀ y ∈ lotsOf ls m.inst, y.q = txtL (val y.q) ∧ 0 ≤ val y.q := by
  obtain ⟨hl, hm⟩ := mapL_valid h0
  refine ⟨hm.ratio, hm.r0, fun y hy => ?_⟩
  have h := lotsOf_ok hl m.inst y hy
  exact ⟨canB_eq h.q, Int.le_of_lt h.q0⟩
end Go.Proofs.YtbnfgbcgpbdpcaaGreatDoor
/- The walk of the law LotmapWhole. -/
namespace Go.Proofs.YtbnfgbcgpbdpcaaGreatDoor
open Go.RowKit Go.Shelf
attribute [local go_sem ↓] Go.wp_at_zero Go.wp_at_succ

theorem below_dN {B : Nat} {a w : World} (h : Below B a w) (n : Nat) : Below B a (w.drewN n) := ⟨h.os, h.tape, h.output, h.size, h.block⟩
set_option maxRecDepth 100000 in
set_option maxHeartbeats 8000000 in
theorem whole_walk (A : Option Addr) (n c : Nat) (ls : List Lot) (m : Mp) (w : World) (hp : Env w) (hs : Lots w w.heap.size A n ls) (hnil : (A = none ∧ c = 0) ∨ ∃ a, A = some a) (hn : n ≤ 9223372036854775807) (hi : ∀ y ∈ ls, y.I)
    (hm : m.Max) (hd : -9223372036854775808 ≤ m.day ∧ m.day ≤ 9223372036854775807) :
    Calls Tryz.prog 4 #[.slice A n c, MpV m] w fun e w' => e = .returned (.bool true) ∧ Below w.heap.size w w' := by
  have HGR := Lib.hid (fun W (hb : Below w.heap.size w W) => lwGreat_any A n c ls m W (hs.here hb) hn hm)
  have HAW := Lib.hid (fun W (hb : Below w.heap.size w W) => lwAwake_any W (hp.here hb))
  have HK0 := Lib.hid (show Kp w [(w.heap.size, #[.string ⟨m.cause.toArray⟩, .int .i64 m.day, .string ⟨m.inst.toArray⟩, .string ⟨m.other.toArray⟩, .string ⟨m.ratio.n.toArray⟩, .string ⟨m.ratio.d.toArray⟩, .string ⟨m.share.n.toArray⟩, .string ⟨m.share.d.toArray⟩, .string ⟨m.price.n.toArray⟩, .string ⟨m.price.d.toArray⟩, .bool m.keep], 28)] (w.alloc (.cells #[.string ⟨m.cause.toArray⟩, .int .i64 m.day, .string ⟨m.inst.toArray⟩, .string ⟨m.other.toArray⟩, .string ⟨m.ratio.n.toArray⟩, .string ⟨m.ratio.d.toArray⟩, .string ⟨m.share.n.toArray⟩, .string ⟨m.share.d.toArray⟩, .string ⟨m.price.n.toArray⟩, .string ⟨m.price.d.toArray⟩, .bool m.keep] 28)) from (Kp.start hp).new w.heap.size rfl _ _)
  obtain ⟨z0, z1, z2, z3, z4, z5, z6, z7, z8, z9, z10⟩ := mp11 HK0.out (m := m) (i := 0) rfl
  cases hg : (grtL ls || longM m) with
  | true =>
    rw [hg] at HGR
    clear hp hs hnil hn hi hm hd hg
    unfold MpV at *
    rw [mpA_eq] at *
    go_enter Tryz.func4, Tryz.ntmps4
    go_wp2_with fail
    generalize w.alloc (.cells #[.string ⟨m.cause.toArray⟩, .int .i64 m.day, .string ⟨m.inst.toArray⟩, .string ⟨m.other.toArray⟩, .string ⟨m.ratio.n.toArray⟩, .string ⟨m.ratio.d.toArray⟩, .string ⟨m.share.n.toArray⟩, .string ⟨m.share.d.toArray⟩, .string ⟨m.price.n.toArray⟩, .string ⟨m.price.d.toArray⟩, .bool m.keep] 28) = W0 at *
    refine (HGR.out _ HK0.out.bl).mono ?_
    rintro e w1 ⟨rfl, hb1⟩
    have HK1 := Lib.hid (HK0.out.here hb1)
    clear z0 z1 z2 z3 z4 z5 z6 z7 z8 z9 z10 hb1
    go_wp2_with fail
    refine (HAW.out _ HK1.out.bl).mono ?_
    rintro e w2 ⟨rfl, hb2⟩
    go_wp2_with fail
    first | go_ret | skip
    exact ⟨rfl, (HK1.out.here hb2).bl⟩
  | false =>
    rw [hg] at HGR
    simp only [Bool.or_eq_false_iff] at hg
    obtain ⟨hn2, hsz⟩ := grtL_no hg.1 hi
    obtain ⟨hr, hsh, hpr, hmz⟩ := longM_no hg.2 hd.1 hd.2
    have hn1 : n ≤ 1002 := by rw [hs.1]; exact hn2
    have hmz5 : m.Sz 5000 ∨ m.Bad := hmz.imp (fun h => h.more (by omega)) id
    have hls5 : ∀ y ∈ ls, y.Sz 50000 := fun y hy => (hsz y hy).1.more (by omega)
    have hq13 : ∀ y ∈ ls, y.q.length ≤ 13 := fun y hy => (hsz y hy).2.1
    have hc13 : ∀ y ∈ ls, y.c.length ≤ 13 := fun y hy => (hsz y hy).2.2
    have HNU := Lib.hid (fun W (hb : Below w.heap.size w W) => numbers_any A n c ls m W 13 (hp.here hb) (hs.here hb) hnil (by omega) hls5 hmz5 (by decide) (by decide) hq13 hc13 (hr.more (by omega)) (hsh.more (by omega)) (hpr.more (by omega)))
    have HLEN := Lib.hid (mapL_len (m := m) (L := 13) (by decide) (by decide) (fun y hy => ⟨hq13 y hy, hc13 y hy⟩) hls5 (hr.more (by omega)) (hpr.more (by omega)))
    have HNO := Lib.hid (mapL_no (ls := ls) (m := m)); have HFR := Lib.hid (And.intro hr hpr)
    have HNL := Lib.hid (show numL ls m = if (mapL ls m).2 = 0 then (lotsOf ls m.inst, newOf ls (mapL ls m).1.lots, (mapL ls m).1, true) else ([], [], (mapL ls m).1, false) from rfl)
    have HP := Lib.hid hp; have HS := Lib.hid hs; have HN1 := Lib.hid hn1
    have HQC := Lib.hid (And.intro hq13 hc13)
    clear hp hs hnil hn hi hm hd hg hn2 hsz hr hsh hpr hn1 hmz hmz5 hls5 hq13 hc13
    unfold MpV at *
    rw [mpA_eq] at *
    go_enter Tryz.func4, Tryz.ntmps4
    go_wp2_with fail
    generalize w.alloc (.cells #[.string ⟨m.cause.toArray⟩, .int .i64 m.day, .string ⟨m.inst.toArray⟩, .string ⟨m.other.toArray⟩, .string ⟨m.ratio.n.toArray⟩, .string ⟨m.ratio.d.toArray⟩, .string ⟨m.share.n.toArray⟩, .string ⟨m.share.d.toArray⟩, .string ⟨m.price.n.toArray⟩, .string ⟨m.price.d.toArray⟩, .bool m.keep] 28) = W0 at *
    refine (HGR.out _ HK0.out.bl).mono ?_
    rintro e w1 ⟨rfl, hb1⟩
    have HK1 := Lib.hid (HK0.out.here hb1)
    clear z0 z1 z2 z3 z4 z5 z6 z7 z8 z9 z10 hb1 HGR HK0
    obtain ⟨z0, z1, z2, z3, z4, z5, z6, z7, z8, z9, z10⟩ := mp11 HK1.out (m := m) (i := 0) rfl
    have e7 := z10
    by_cases hkp : m.keep = true
    · rw [hkp] at e7
      clear z10
      go_wp2_with fail
      refine (HAW.out _ HK1.out.bl).mono ?_
      rintro e w2 ⟨rfl, hb2⟩
      go_wp2_with fail
      first | go_ret | skip
      exact ⟨rfl, (HK1.out.here hb2).bl⟩
    rw [Bool.not_eq_true] at hkp
    rw [hkp] at e7
    have HKP := Lib.hid hkp
    clear z10 hkp
    go_upto_region 3 with (fail)
    clear e7 z0 z1 z2 z3 z4 z5 z6 z7 z8 z9
    obtain ⟨z0, z1, z2, z3, z4, z5, z6, z7, z8, z9, z10⟩ := mp11 HK1.out (m := m) (i := 0) rfl
    go_wp2_with fail
    refine (HNU.out _ HK1.out.bl).mono ?_
    rintro e w2 ⟨Ao, co, Am, cm, A1, c1, Ag, cg, As, cs, rfl, oO, oM, oL, oG, oS, hb2⟩
    clear z0 z1 z2 z3 z4 z5 z6 z7 z8 z9 z10 HNU
    by_cases h0 : (mapL ls m).2 = 0
    · rw [HNL.out, if_pos h0] at oO oM oL oG oS ⊢
      obtain ⟨oro, or0, hOF⟩ := old_facts h0
      have HWF := Lib.hid (whole_facts h0 HKP.out)
      have HOF := Lib.hid hOF
      have HPT := Lib.hid (fun W hW (y : Lot) (hy : y ∈ lotsOf ls m.inst) => parts_ok y.q m.ratio W hW (HOF.out y hy).1 (by have := HQC.out.1 y (List.mem_filter.1 hy).1; omega) oro (HFR.out.1.more (by omega)) (HOF.out y hy).2 or0)
      obtain ⟨_, _, _, q4, q5, q6⟩ := HLEN.out
      have HOL := Lib.hid (show (lotsOf ls m.inst).length ≤ 2000 by have := lotsOf_len ls m.inst; have := HN1.out; have := HS.out.1; omega)
      dsimp only at oO oM oL oG oS ⊢
      have HRZ := Lib.hid (fun (y : Lot) => (show restQ m y = ((val y.q : Int) : Rat) * m.ratio.rat - ((flo (((val y.q : Int) : Rat) * m.ratio.rat) : Int) : Rat) from rfl))
      clear HNO HNL HLEN h0 q4 q5 q6 oro or0 hOF HOF HQC
      generalize newOf ls (mapL ls m).1.lots = nw at *
      generalize lotsOf ls m.inst = old at *
      generalize (mapL ls m).1.lots = lots at *
      generalize (mapL ls m).1.gains = gains at *
      generalize (mapL ls m).1.steps = steps at *
      unfold PartsPost at HPT
      unfold FrV S at HPT
      have HK2 := Lib.hid (HK1.out.here hb2)
      have HK3 := Lib.hid (HK2.out.new w2.heap.size rfl #[.slice A1 lots.length c1, .slice Ag gains.length cg, .slice As steps.length cs, .slice none 0 0] 35)
      have hB1 := HK1.out.bl.size
      have HOO := Lib.hid ((oO.base_ hB1).alloc (.cells #[.slice A1 lots.length c1, .slice Ag gains.length cg, .slice As steps.length cs, .slice none 0 0] 35)); have HOM := Lib.hid ((oM.base_ hB1).alloc (.cells #[.slice A1 lots.length c1, .slice Ag gains.length cg, .slice As steps.length cs, .slice none 0 0] 35))
      clear oO oM oL oG oS hb2 hB1
      go_upto_region 6 with (fail)
      generalize (w2.alloc (.cells #[.slice A1 lots.length c1, .slice Ag gains.length cg, .slice As steps.length cs, .slice none 0 0] 35)) = W3 at *
      go_wp2_with fail
      go_loopw [10, 11, 12, 13, 40] (fun _ _ _ _ j wr => ∃ k : Nat, k ≤ old.length ∧ j = .int .i64 k ∧ Hid (Below W3.heap.size W3 wr) ∧ Hid (∀ y ∈ old.take k, restQ m y = 0)) (fun _ _ _ _ j _ => old.length - (intOf j).toNat)
      case atStart => exact ⟨0, Nat.zero_le _, rfl, Below.refl _ _, (fun y h => by simp at h)⟩
      case round =>
        obtain ⟨k, hk, rfl, HBR, HWZ⟩ := hrel
        have HKR := Lib.hid (HK3.out.here HBR.out)
        by_cases hlt : k < old.length
        · obtain ⟨b, off, y, hAe, hb, hy, d0, d1, d2, d3, d4, d5, d6⟩ := ((HOO.out.below HBR.out).sl L7_len).lot7 hlt
          have HPY := Lib.hid (fun W hW => HPT.out W hW y (List.mem_of_getElem? hy))
          have HTK := Lib.hid (show restQ m y = 0 → ∀ x ∈ old.take (k + 1), restQ m x = 0 from fun hz x hx => by
            obtain ⟨h1, h2⟩ := List.getElem?_eq_some_iff.1 hy
            rw [List.take_succ_eq_append_getElem h1, h2, List.mem_append] at hx
            rcases hx with hx | hx
            · exact HWZ.out x hx
            · rw [List.mem_singleton.1 hx]; exact hz)
          have HNZ := Lib.hid (show restQ m y = 0 ∨ ((frOf (restQ m y)).n == []) = false from by
            by_cases h : restQ m y = 0
            · exact .inl h
            · exact .inr (frOf_nzW h))
          rw [← HRZ.out y] at HPY
          subst hAe
          clear hy
          have HAB := Lib.hid (HBR.out.alloc HBR.out.size (.cells #[.string ⟨y.id.toArray⟩, .string ⟨y.inst.toArray⟩, .int .i64 y.acq, .int .i64 y.opn, .string ⟨y.q.toArray⟩, .string ⟨y.c.toArray⟩, .string ⟨y.u.toArray⟩] 39))
          have HA1 := Lib.hid (HKR.out.new wr.heap.size rfl #[.string ⟨y.id.toArray⟩, .string ⟨y.inst.toArray⟩, .int .i64 y.acq, .int .i64 y.opn, .string ⟨y.q.toArray⟩, .string ⟨y.c.toArray⟩, .string ⟨y.u.toArray⟩] 39)
          have r0 := HA1.out.c 2 4 rfl rfl; have r1 := HA1.out.c 2 5 rfl rfl; have y4 := HA1.out.c 0 4 rfl rfl
          go_upto_region 9 with (fail)
          clear d0 d1 d2 d3 d4 d5 d6
          generalize (wr.alloc (.cells #[.string ⟨y.id.toArray⟩, .string ⟨y.inst.toArray⟩, .int .i64 y.acq, .int .i64 y.opn, .string ⟨y.q.toArray⟩, .string ⟨y.c.toArray⟩, .string ⟨y.u.toArray⟩] 39)) = Wy at *
          go_wp2_with fail
          refine (HPY.out _ HA1.out.pw).mono ?_
          rintro e w5 ⟨rfl, hb5⟩
          have HK5 := Lib.hid (HA1.out.here hb5)
          have HB5 := Lib.hid (HAB.out.trans (hb5.mono HAB.out.size))
          clear hb5 r0 r1 y4
          have hol := HOL.out
          rcases HNZ.out with hz | hz
          · rw [hz, frOf_zero]
            have HB6 := Lib.hid (HK5.out.new w5.heap.size rfl #[.string ⟨#[]⟩, .string ⟨#[]⟩] 26)
            go_wp2_with fail
            go_roundw
            case rel => exact ⟨k + 1, by omega, by go_num, HB5.out.alloc HB5.out.size _, HTK.out hz⟩
            case measure => simp [intOf]; omega
          · generalize frOf (restQ m y) = fr at *
            have HB6 := Lib.hid (HK5.out.new w5.heap.size rfl #[.string ⟨fr.n.toArray⟩, .string ⟨fr.d.toArray⟩] 26)
            go_wp2_with fail
            refine (HAW.out _ HB6.out.bl).mono ?_
            rintro e w6 ⟨rfl, hb6⟩
            go_wp2_with fail
            first | go_ret | skip
            exact ⟨rfl, (HB6.out.here hb6).bl⟩
        · obtain rfl : k = old.length := by omega
          obtain ⟨hg0, hnl, hat⟩ := HWF.out (fun y hy => HWZ.out y (by rw [List.take_of_length_le (Nat.le_refl _)]; exact hy))
          have HAT := Lib.hid hat; have HLN := Lib.hid hnl; have HOL2 := Lib.hid HOL.out
          have HWZ2 := Lib.hid (show ∀ y ∈ old, restQ m y = 0 from fun y hy => HWZ.out y (by rw [List.take_of_length_le (Nat.le_refl _)]; exact hy))
          have e1 := HKR.out.c 0 1 rfl rfl
          rw [hg0] at e1
          clear hat HWF HWZ hg0
          go_wp2_with fail
          go_loopw [14, 15, 16, 17, 18, 79] (fun _ _ _ _ _ j wx => ∃ i : Nat, i ≤ old.length ∧ j = .int .i64 i ∧ Hid (Below W3.heap.size W3 wx)) (fun _ _ _ _ _ j _ => old.length - (intOf j).toNat)
          case atStart => exact ⟨0, Nat.zero_le _, rfl, HBR.out⟩
          case round =>
            clear HBR HKR e1 hnl
            obtain ⟨i, hi, rfl, HBI⟩ := hrel
            have HKI := Lib.hid (HK3.out.here HBI.out)
            by_cases hil : i < old.length
            · obtain ⟨b, off, y, hAe, hb, hy, d0, d1, d2, d3, d4, d5, d6⟩ := ((HOO.out.below HBI.out).sl L7_len).lot7 hil
              obtain ⟨z, hz, zq, zc, za, zo⟩ := HAT.out i y hy
              obtain ⟨b2, off2, z', hAm, hb2, hz', f0, f1, f2, f3, f4, f5, f6⟩ := ((HOM.out.below HBI.out).sl L7_len).lot7 (i := i) (by rw [HLN.out]; exact hil)
              obtain rfl : z' = z := Option.some.inj (hz'.symm.trans hz)
              rw [zq] at f4
              rw [zc] at f5
              rw [za] at f2
              rw [zo] at f3
              have HFS := Lib.hid (show ∀ X, Below wr.heap.size wr X → X.cell? ⟨b2, off2 + i * 7 + 4, none⟩ = some (.string ⟨(txtL (flo (((val y.q : Int) : Rat) * m.ratio.rat))).toArray⟩) ∧ X.cell? ⟨b2, off2 + i * 7 + 5, none⟩ = some (.string ⟨y.c.toArray⟩) ∧ X.cell? ⟨b2, off2 + i * 7 + 2, none⟩ = some (.int .i64 y.acq) ∧ X.cell? ⟨b2, off2 + i * 7 + 3, none⟩ = some (.int .i64 y.opn) from fun X hX =>
                ⟨(hX.cell (p := ⟨b2, off2 + i * 7 + 4, none⟩) hb2).trans f4, (hX.cell (p := ⟨b2, off2 + i * 7 + 5, none⟩) hb2).trans f5, (hX.cell (p := ⟨b2, off2 + i * 7 + 2, none⟩) hb2).trans f2, (hX.cell (p := ⟨b2, off2 + i * 7 + 3, none⟩) hb2).trans f3⟩)
              have HPY := Lib.hid (fun W hW => HPT.out W hW y (List.mem_of_getElem? hy))
              rw [← HRZ.out y, HWZ2.out y (List.mem_of_getElem? hy), frOf_zero] at HPY
              rw [show Fr.zero.n.toArray = #[] from rfl, show Fr.zero.d.toArray = #[] from rfl] at HPY
              subst hAe hAm
              clear hy hz hz' zq zc za zo f0 f1 f2 f3 f4 f5 f6
              have HWB := Lib.hid ((Below.refl wr.heap.size wr).alloc (Nat.le_refl _) (.cells #[.string ⟨y.id.toArray⟩, .string ⟨y.inst.toArray⟩, .int .i64 y.acq, .int .i64 y.opn, .string ⟨y.q.toArray⟩, .string ⟨y.c.toArray⟩, .string ⟨y.u.toArray⟩] 39))
              have HAB := Lib.hid (HBI.out.alloc HBI.out.size (.cells #[.string ⟨y.id.toArray⟩, .string ⟨y.inst.toArray⟩, .int .i64 y.acq, .int .i64 y.opn, .string ⟨y.q.toArray⟩, .string ⟨y.c.toArray⟩, .string ⟨y.u.toArray⟩] 39))
              have HA1 := Lib.hid (HKI.out.new wr.heap.size rfl #[.string ⟨y.id.toArray⟩, .string ⟨y.inst.toArray⟩, .int .i64 y.acq, .int .i64 y.opn, .string ⟨y.q.toArray⟩, .string ⟨y.c.toArray⟩, .string ⟨y.u.toArray⟩] 39)
              have r0 := HA1.out.c 2 4 rfl rfl; have r1 := HA1.out.c 2 5 rfl rfl; have y4 := HA1.out.c 0 4 rfl rfl
              go_upto_region 18 with (fail)
              clear d0 d1 d2 d3 d4 d5 d6
              generalize (wr.alloc (.cells #[.string ⟨y.id.toArray⟩, .string ⟨y.inst.toArray⟩, .int .i64 y.acq, .int .i64 y.opn, .string ⟨y.q.toArray⟩, .string ⟨y.c.toArray⟩, .string ⟨y.u.toArray⟩] 39)) = Wy at *
              go_wp2_with fail
              refine (HPY.out _ HA1.out.pw).mono ?_
              rintro e w5 ⟨rfl, hb5⟩
              have HK5 := Lib.hid ((HA1.out.here hb5).new w5.heap.size rfl #[.string ⟨#[]⟩, .string ⟨#[]⟩] 26)
              have HB5 := Lib.hid ((HAB.out.trans (hb5.mono HAB.out.size)).alloc (Nat.le_trans HAB.out.size hb5.size) (.cells #[.string ⟨#[]⟩, .string ⟨#[]⟩] 26))
              have HWB5 := Lib.hid ((HWB.out.trans (hb5.mono HWB.out.size)).alloc (Nat.le_trans HWB.out.size hb5.size) (.cells #[.string ⟨#[]⟩, .string ⟨#[]⟩] 26))
              go_upto_region 19 with (fail)
              generalize (w5.alloc (.cells #[.string ⟨#[]⟩, .string ⟨#[]⟩] 26)) = W5 at *
              clear r0 r1 y4
              obtain ⟨g4, g5, g2, g3⟩ := HFS.out _ HWB5.out
              have y5 := HK5.out.c 1 5 rfl rfl; have y2 := HK5.out.c 1 2 rfl rfl; have y3 := HK5.out.c 1 3 rfl rfl
              generalize txtL (flo (((val y.q : Int) : Rat) * m.ratio.rat)) = tq at *
              have i1 : (0 : Int) ≤ (i : Int) := by omega
              have i2 : (i : Int) < (nw.length : Int) := by have := HLN.out; omega
              have hqq : (tq != tq) = false := by simp
              have hcc : (y.c != y.c) = false := by simp
              go_quiet (fail)
              all_goals
                have hol := HOL2.out
                go_wp2_with fail
                go_roundw
                case rel => exact ⟨i + 1, by omega, by go_num, below_dN HB5.out nq⟩
                case measure => simp [intOf]; omega
            · obtain rfl : i = old.length := by omega
              go_wp2_with fail
              refine (HAW.out _ HKI.out.bl).mono ?_
              rintro e w6 ⟨rfl, hb6⟩
              go_wp2_with fail
              first | go_ret | skip
              exact ⟨rfl, (HKI.out.here hb6).bl⟩
    · rw [HNL.out, if_neg h0, HNO.out h0] at oO oM oL oG oS ⊢
      dsimp only
      rw [show Res.none.lots.length = 0 from rfl, show Res.none.gains.length = 0 from rfl, show Res.none.steps.length = 0 from rfl, show ([] : List Lot).length = 0 from rfl]
      have HK2 := Lib.hid (HK1.out.here hb2)
      have HK3 := Lib.hid (HK2.out.new w2.heap.size rfl #[.slice A1 0 c1, .slice Ag 0 cg, .slice As 0 cs, .slice none 0 0] 35)
      have e1 := HK3.out.c 0 0 rfl rfl
      clear oO oM oL oG oS hb2 h0
      go_wp2_with fail
      refine (HAW.out _ HK3.out.bl).mono ?_
      rintro e w4 ⟨rfl, hb4⟩
      go_wp2_with fail
      first | go_ret | skip
      exact ⟨rfl, (HK3.out.here hb4).bl⟩
end Go.Proofs.YtbnfgbcgpbdpcaaGreatDoor
