/- Merged texts: Ck, Qq. -/
import Derived.Test.YtndndphfblijpaaGreatDoorQGQ27
import Derived.Deep.RegionHeld3
import Derived.Deep.DrawnRows
import Derived.Deep.DeepCutAuto
import Derived.Test.YtndndphfblijpaaGreatDoorQGQ21
import Derived.Test.YtndndphfblijpaaGreatDoorQGQ16
import Derived.Test.YtndndphfblijpaaGreatDoorQGQ10
import Derived.Test.YtndndphfblijpaaGreatDoorQGQ12
/- Contract of allocate.Check at a fair division. -/
namespace Go.Proofs.YtndndphfblijpaaGreatDoor
open Go.RowKit Go.Shelf
attribute [local go_sem ↓] Go.wp_at_zero Go.wp_at_succ

set_option maxRecDepth 20000 in
theorem aFairC_any (a : List UInt8) (ha : a.length ≤ 100000) : Gives 63 #[S a] (.bool (!canB a)) := by
  intro w hp
  have HC := Lib.hid (iCheck_any a (by omega))
  have HE := Lib.hid (show ((if a = txtL (val a) then (0 : Int) else 1) != 0) = !canB a by
    unfold canB
    by_cases h : a = txtL (val a)
    · rw [if_pos h, decide_eq_true h]; rfl
    · rw [if_neg h, decide_eq_false h]; rfl)
  generalize (if a = txtL (val a) then (0 : Int) else 1) = z at *
  generalize canB a = bb at *
  have HP := Lib.hid hp
  clear ha hp
  unfold S at *
  go_enter Tryz.func63, Tryz.ntmps63
  go_wp2_with fail
  refine (HC.out _ HP.out).mono ?_
  rintro e w1 ⟨rfl, hb⟩
  go_wp2_with fail
  first | go_ret | skip
  exact ⟨ret_bool HE.out, hb⟩
theorem rb_negF {q : Rat} {L : Nat} (h : RB L q) : RB L (-q) := by
  unfold RB at *
  rw [Rat.neg_num, Rat.neg_den, Int.natAbs_neg]
  exact h
theorem txtL_val_lenF {x : List UInt8} {L : Nat} (h : x.length ≤ L) : (txtL (val x)).length ≤ L + 1 := txtL_length (val_lt' h)
theorem cmpR_neg {a b : Rat} (h : cmpR a b < 0) : cmpR a b = -1 := by
  unfold cmpR at h ⊢
  split
  · rfl
  · rename_i h1
    rw [if_neg h1] at h
    split at h <;> omega
theorem cmp_lt {z : Int} (h : z < 0) : decide (0 ≤ z) = false := decide_eq_false (by omega)
set_option maxRecDepth 20000 in
set_option maxHeartbeats 8000000 in
theorem aFair_ok (t : List UInt8) (A : Option Addr) (n c : Nat) (ws : List (List UInt8)) (A2 : Option Addr) (c2 : Nat) (ps : List (List UInt8)) (w : World) (hp : Env w) (hs : Strs w w.heap.size A n ws) (hs2 : Strs w w.heap.size A2 n ps)
    (ht : t.length ≤ 200) (hl : ∀ x ∈ ws, x.length ≤ 200) (hl2 : ∀ x ∈ ps, x.length ≤ 200) (hn : n ≤ 1000) (hok : splitC t ws = 0) (hcan : ∀ x ∈ ps, canB x = true) (hsum : txtL (sumV ps) = t)
    (hfair : ∀ (i : Nat) (x y : List UInt8), ps[i]? = some x → ws[i]? = some y → cmpR (Rat.divInt (val t * val y) (sumV ws) - ((val x : Int) : Rat)) 1 < 0 ∧ cmpR (-(Rat.divInt (val t * val y) (sumV ws) - ((val x : Int) : Rat))) 1 < 0) :
    Calls Tryz.prog 26 #[S t, .slice A n c, .slice A2 n c2] w (CmpIPost 0 w) := by
  have HPO := Lib.hid (show CmpIPost 0 w = fun e w' => e = .returned (.int .i64 0) ∧ Below w.heap.size w w' from rfl)
  generalize CmpIPost 0 w = post at *
  have hwn := hs.1; have hpn := hs2.1
  have hS : sumV ws ≠ 0 := by
    unfold splitC at hok
    intro h
    rw [if_pos h] at hok
    revert hok
    repeat' split
    all_goals decide
  have hsz : ∀ x ∈ ws, (frOf (Rat.divInt (val t * val x) (sumV ws))).Sz 410 := by
    intro x hx
    obtain ⟨K, hK⟩ : ∃ K : Nat, K = 200 := ⟨_, rfl⟩
    have h1 := val_lt' (L := K) (a := t) (by omega)
    have h2 := val_lt' (L := K) (a := x) (by have := hl x hx; omega)
    have h3 : (sumV ws).natAbs < 10 ^ (K + K) := by
      have h := sumV_take_len (ws := ws) (L := 200) hl (by omega) ws.length
      rw [List.take_length] at h
      have h4 := val_lt' (L := K + K) (a := txtL (sumV ws)) (by omega)
      rw [val_txtL] at h4
      exact h4
    exact (frOf_sz (RB.divInt (mul_lt_pow h1 h2) h3 hS)).more (by omega)
  have HID := Lib.hid (fun W (hb : Below w.heap.size w W) => ideal_ok t A n c ws W (hp.here hb) (hs.here hb) (by omega) (fun x hx => by have := hl x hx; omega) hn hok)
  have HCF := Lib.hid (fun W (hb : Below w.heap.size w W) => containsSt_any 63 #[] (fun x => !canB x) A2 n c2 ps W (enters_of Tryz.func63 (by kernel_rfl) rfl) (fun W' x hx hb' => aFairC_any x (by have := hl2 x hx; omega) W' ((hp.here hb).here hb')) (hs2.here hb) (by omega))
  rw [show ps.any (fun x => !canB x) = false by rw [List.any_eq_false]; intro x hx; simp [hcan x hx]] at HCF
  have HWH := Lib.hid (fun W (hb : Below w.heap.size w W) => aWhole_any A2 n c2 ps W (hp.here hb) (hs2.here hb) (fun x hx => by have := hl2 x hx; omega) (by omega))
  rw [hsum] at HWH
  have HO1 := Lib.hid (fun W (hW : Pow W) => (show Calls Tryz.prog 23 #[.string ⟨#[49]⟩] W (FracPost (frOf ((val [49] : Int) : Rat)) W) from fOf_any [49] W hW (by simp)))
  have HON := Lib.hid (show (frOf ((val [49] : Int) : Rat)).Sz 410 ∧ (frOf ((val [49] : Int) : Rat)).rat = 1 from ⟨by rw [frOf_int]; exact ⟨Nat.le_trans (txtL_val_lenF (x := [49]) (L := 1) (by simp)) (by omega), by simp⟩, by rw [rat_frOf, show val [49] = 1 from by decide]; rfl⟩)
  generalize frOf ((val [49] : Int) : Rat) = one at *
  have HOF := Lib.hid (fun x (hx : x ∈ ps) W hW => fOf_any x W hW (by have := hl2 x hx; omega))
  have HSU := Lib.hid (fun x (hx : x ∈ ps) y (hy : y ∈ ws) W hW => fSub_any (frOf (Rat.divInt (val t * val y) (sumV ws))) (frOf ((val x : Int) : Rat)) W hW ((hsz y hy).more (by omega)) (by rw [frOf_int]; exact ⟨by show (txtL _).length ≤ _; have := txtL_val_lenF (hl2 x hx); omega, by simp⟩))
  simp only [rat_frOf] at HSU
  have hdz : ∀ x ∈ ps, ∀ y ∈ ws, RB 900 (Rat.divInt (val t * val y) (sumV ws) - ((val x : Int) : Rat)) := by
    intro x hx y hy
    have h := rb_sub (L := 410) (f := frOf (Rat.divInt (val t * val y) (sumV ws))) (g := frOf ((val x : Int) : Rat)) (hsz y hy) (by rw [frOf_int]; exact ⟨by show (txtL _).length ≤ _; have := txtL_val_lenF (hl2 x hx); omega, by simp⟩) (by omega)
    rw [rat_frOf, rat_frOf] at h
    exact h.more (by omega)
  have HC1 := Lib.hid (fun x (hx : x ∈ ps) y (hy : y ∈ ws) W hW => fCompare_any (frOf (Rat.divInt (val t * val y) (sumV ws) - ((val x : Int) : Rat))) one W hW ((frOf_sz (hdz x hx y hy)).more (by omega)) (HON.out.1.more (by omega)))
  have HNG := Lib.hid (fun x (hx : x ∈ ps) y (hy : y ∈ ws) W hW => fNeg_any (frOf (Rat.divInt (val t * val y) (sumV ws) - ((val x : Int) : Rat))) ((frOf_sz (hdz x hx y hy)).more (by omega)) W hW)
  have HC2 := Lib.hid (fun x (hx : x ∈ ps) y (hy : y ∈ ws) W hW => fCompare_any (frOf (-(Rat.divInt (val t * val y) (sumV ws) - ((val x : Int) : Rat)))) one W hW ((frOf_sz (rb_negF (hdz x hx y hy))).more (by omega)) (HON.out.1.more (by omega)))
  simp only [rat_frOf, HON.out.2] at HC1 HNG HC2
  have HFA := Lib.hid hfair
  have HI := Lib.hid (show idl t ws = ws.map (fun x => frOf (Rat.divInt (val t * val x) (sumV ws))) from rfl)
  have HP := Lib.hid hp; have HS2 := Lib.hid hs2; have HN := Lib.hid (And.intro hwn (And.intro hpn hn)); have HB0 := Lib.hid (Below.refl w.heap.size w)
  clear hp hs hs2 ht hl hl2 hn hok hcan hsum hfair hS hsz hdz hwn hpn
  have hbt : (t != t) = false := by simp
  unfold CmpIPost at HC1 HC2
  unfold FracPost FrV S at HOF HSU
  unfold FracPost FrV S at HO1
  unfold FrV S at HC1 HC2 HNG
  unfold IdPost at HID
  unfold StrPost S at HWH
  unfold S
  go_enter Tryz.func26, Tryz.ntmps26
  go_wp2_with fail
  refine (HID.out _ HB0.out).mono ?_
  rintro e w1 ⟨A1, c1, rfl, ho1, hb1⟩
  have HB1 := Lib.hid hb1
  have HOI := Lib.hid ho1
  clear hb1 ho1 HB0 HID
  go_wp2_with fail
  refine (HCF.out _ HB1.out).mono ?_
  rintro e w2 ⟨rfl, hb2⟩
  have HB2 := Lib.hid (HB1.out.trans (hb2.mono HB1.out.size))
  have HOI2 := Lib.hid (HOI.out.below hb2)
  clear hb2 HB1 HOI HCF
  go_wp2_with fail
  refine (HWH.out _ HB2.out).mono ?_
  rintro e w3 ⟨rfl, hb3⟩
  have HB3 := Lib.hid (HB2.out.trans (hb3.mono HB2.out.size))
  have HOI3 := Lib.hid (HOI2.out.below hb3)
  clear hb3 HB2 HOI2 HWH
  go_wp2_with fail
  refine (HO1.out _ (HP.out.here HB3.out).pow).mono ?_
  rintro e w4 ⟨rfl, hb4⟩
  have HB4 := Lib.hid ((HB3.out.trans (hb4.mono HB3.out.size)).alloc (Nat.le_trans HB3.out.size hb4.size) (.cells #[.string ⟨one.n.toArray⟩, .string ⟨one.d.toArray⟩] 26))
  have HOI4 := Lib.hid ((HOI3.out.below hb4).alloc (.cells #[.string ⟨one.n.toArray⟩, .string ⟨one.d.toArray⟩] 26))
  have HBK := Lib.hid (show BlkB (w4.alloc (.cells #[.string ⟨one.n.toArray⟩, .string ⟨one.d.toArray⟩] 26)) w4.heap.size #[.string ⟨one.n.toArray⟩, .string ⟨one.d.toArray⟩] 26 from heap_alloc_new w4 _)
  clear hb4 HB3 HOI3 HO1 hbt
  go_upto_region 11 with (fail)
  generalize (w4.alloc (.cells #[.string ⟨one.n.toArray⟩, .string ⟨one.d.toArray⟩] 26)) = W4 at *
  generalize w4.heap.size = P9 at *
  go_wp2_with fail
  go_loopw [10, 11, 12, 40] (fun _ _ _ j wr => ∃ k : Nat, k ≤ n ∧ j = .int .i64 k ∧ Hid (Below W4.heap.size W4 wr)) (fun _ _ _ j _ => n - (intOf j).toNat)
  case atStart => exact ⟨0, Nat.zero_le _, rfl, Below.refl _ _⟩
  case round =>
    obtain ⟨k, hk, rfl, HBR⟩ := hrel
    by_cases hlt : k < n
    · obtain ⟨b, off, f, rfl, hb, hf, d0, d1⟩ := ((HOI4.out.below HBR.out).sl F2_len).fr hlt
      obtain ⟨b2, off2, x, rfl, hb2, hx, d2⟩ := ((HS2.out.here HB4.out).below HBR.out).st hlt
      rw [HI.out, List.getElem?_map] at hf
      obtain ⟨y, hy, rfl⟩ := Option.map_eq_some_iff.1 hf
      have hxm := List.mem_of_getElem? hx; have hym := List.mem_of_getElem? hy
      obtain ⟨z1n, z2n⟩ := HFA.out k x y hx hy
      have HOFx := Lib.hid (HOF.out x hxm); have HSUx := Lib.hid (HSU.out x hxm y hym); have HC1x := Lib.hid (HC1.out x hxm y hym); have HNGx := Lib.hid (HNG.out x hxm y hym); have HC2x := Lib.hid (HC2.out x hxm y hym)
      rw [cmpR_neg z1n] at HC1x
      rw [cmpR_neg z2n] at HC2x
      clear z1n z2n
      generalize frOf (-(Rat.divInt (val t * val y) (sumV ws) - ((val x : Int) : Rat))) = nd at *
      generalize frOf (Rat.divInt (val t * val y) (sumV ws) - ((val x : Int) : Rat)) = fd at *
      generalize frOf (Rat.divInt (val t * val y) (sumV ws)) = f at *
      generalize frOf ((val x : Int) : Rat) = fo at *
      have HW := Lib.hid (HP.out.here (HB4.out.trans (HBR.out.mono HB4.out.size)))
      have H1 := Lib.hid ((Kp.start HW.out).new wr.heap.size rfl #[.string ⟨f.n.toArray⟩, .string ⟨f.d.toArray⟩] 26)
      have HRT := Lib.hid (show ∀ X bs i, Kp wr bs X → bs[i]? = some (wr.heap.size, #[.string ⟨f.n.toArray⟩, .string ⟨f.d.toArray⟩], 26) → X.cell? ⟨wr.heap.size, 0, none⟩ = some (.string ⟨f.n.toArray⟩) ∧ X.cell? ⟨wr.heap.size, 1, none⟩ = some (.string ⟨f.d.toArray⟩) ∧ X.cell? ⟨b2, off2 + k, none⟩ = some (.string ⟨x.toArray⟩) from fun X bs i h hb => ⟨h.c i 0 hb rfl, h.c i 1 hb rfl, (h.bl.cell (p := ⟨b2, off2 + k, none⟩) (Nat.lt_of_lt_of_le hb2 HBR.out.size)).trans d2⟩)
      have HR9 := Lib.hid (show ∀ X bs, Kp wr bs X → X.cell? ⟨P9, 0, none⟩ = some (.string ⟨one.n.toArray⟩) ∧ X.cell? ⟨P9, 1, none⟩ = some (.string ⟨one.d.toArray⟩) from fun X bs h => ⟨((HBK.out.here HBR.out).here h.bl).cell 0 rfl, ((HBK.out.here HBR.out).here h.bl).cell 1 rfl⟩)
      clear hf hx hy hxm hym hb hb2 hk
      have q1 := H1.out.c 0 0 rfl rfl; have q2 := H1.out.c 0 1 rfl rfl
      go_upto_region 14 with (fail)
      clear d0 d1 d2
      generalize HWx : wr.alloc (.cells #[.string ⟨f.n.toArray⟩, .string ⟨f.d.toArray⟩] 26) = Wx at *
      clear HWx
      have HPA := Lib.hid ((H1.out.new Wx.heap.size rfl #[.string ⟨#[]⟩, .string ⟨#[]⟩] 26).drew)
      go_cut [12] (fun p wc => ∃ P12, p = .pointer (some ⟨P12, 0, none⟩) ∧ Hid (Kp wr [(P12, #[.string ⟨fd.n.toArray⟩, .string ⟨fd.d.toArray⟩], 26), (wr.heap.size, #[.string ⟨f.n.toArray⟩, .string ⟨f.d.toArray⟩], 26)] wc))
      case first =>
        obtain ⟨s00, s01, s02⟩ := HRT.out _ _ 0 H1.out rfl
        have s0a := HRT.out _ _ 1 HPA.out rfl
        go_region_held3 (fun X => X.cell? ⟨wr.heap.size, 0, none⟩ = some (.string ⟨f.n.toArray⟩) ∧ X.cell? ⟨wr.heap.size, 1, none⟩ = some (.string ⟨f.d.toArray⟩) ∧ X.cell? ⟨b2, off2 + k, none⟩ = some (.string ⟨x.toArray⟩))
          (first
            | with_reducible exact s4
            | with_reducible exact s2a
            | with_reducible exact s2
            | with_reducible exact s1a
            | with_reducible exact s1
            | with_reducible exact s0a
            | go_keep)
          (first
            | (go_at_call 23; first
                | (refine (HOFx.out _ H1.out.drew.po).mono ?_; rintro e y1 ⟨rfl, hy⟩
                   have g1 := H1.out.drew.here hy
                   have s1 := HRT.out _ _ 0 g1 rfl
                   have g1a := g1.new y1.heap.size rfl #[.string ⟨#[]⟩, .string ⟨#[]⟩] 26
                   have s1a := HRT.out _ _ 1 g1a rfl)
                | (refine (HOFx.out _ HPA.out.po).mono ?_; rintro e y1 ⟨rfl, hy⟩
                   have g1 := HPA.out.here hy
                   have s1 := HRT.out _ _ 1 g1 rfl))
            | (go_at_call 57; first
                | (refine (HSUx.out _ g1.po).mono ?_; rintro e y2 ⟨rfl, hy⟩
                   have g2 := g1.here hy)
                | (refine (HSUx.out _ g1a.po).mono ?_; rintro e y2 ⟨rfl, hy⟩
                   have g2 := g1a.here hy)
               first
                | (have s2 := HRT.out _ _ 0 g2 rfl
                   have g2a := g2.new y2.heap.size rfl #[.string ⟨#[]⟩, .string ⟨#[]⟩] 26
                   have s2a := HRT.out _ _ 1 g2a rfl
                   have g4 := (g2a.set 0 0 rfl (.string ⟨fd.n.toArray⟩)).set 0 1 rfl (.string ⟨fd.d.toArray⟩)
                   have s4 := HRT.out _ _ 1 g4 rfl)
                | (have s2 := HRT.out _ _ 1 g2 rfl
                   have n0 := g2.c 0 0 rfl rfl; have n1 := g2.c 0 1 rfl rfl
                   have v0 := g2.f 0 0 rfl; have v1 := g2.f 0 1 rfl
                   have g4 := (g2.set 0 0 rfl (.string ⟨fd.n.toArray⟩)).set 0 1 rfl (.string ⟨fd.d.toArray⟩)
                   have s4 := HRT.out _ _ 1 g4 rfl)))
        all_goals
          go_wp2_with fail
          go_meet
          first
            | exact ⟨_, rfl, g4⟩
            | exact ⟨_, rfl, g2.new _ rfl _ _⟩
      case rest =>
      obtain ⟨P12, rfl, H2⟩ := hcut
      clear H1 HPA HRT HOFx HSUx
      go_upto_region 15 with (fail)
      have HRT := Lib.hid (show ∀ X, Kp wr [(P12, #[.string ⟨fd.n.toArray⟩, .string ⟨fd.d.toArray⟩], 26), (wr.heap.size, #[.string ⟨f.n.toArray⟩, .string ⟨f.d.toArray⟩], 26)] X → X.cell? ⟨P12, 0, none⟩ = some (.string ⟨fd.n.toArray⟩) ∧ X.cell? ⟨P12, 1, none⟩ = some (.string ⟨fd.d.toArray⟩) ∧ X.cell? ⟨P9, 0, none⟩ = some (.string ⟨one.n.toArray⟩) ∧ X.cell? ⟨P9, 1, none⟩ = some (.string ⟨one.d.toArray⟩) from fun X h => ⟨h.c 0 0 rfl rfl, h.c 0 1 rfl rfl, (HR9.out _ _ h).1, (HR9.out _ _ h).2⟩)
      go_cut [62] (fun v wc => v = .bool false ∧ Hid (Kp wr [(P12, #[.string ⟨fd.n.toArray⟩, .string ⟨fd.d.toArray⟩], 26), (wr.heap.size, #[.string ⟨f.n.toArray⟩, .string ⟨f.d.toArray⟩], 26)] wc))
      case first =>
        obtain ⟨s00, s01, s02, s03⟩ := HRT.out _ H2.out
        have s0 := HRT.out _ H2.out.drew
        go_region_held3 (fun X => X.cell? ⟨P12, 0, none⟩ = some (.string ⟨fd.n.toArray⟩) ∧ X.cell? ⟨P12, 1, none⟩ = some (.string ⟨fd.d.toArray⟩) ∧ X.cell? ⟨P9, 0, none⟩ = some (.string ⟨one.n.toArray⟩) ∧ X.cell? ⟨P9, 1, none⟩ = some (.string ⟨one.d.toArray⟩))
          (first
            | with_reducible exact s3
            | with_reducible exact s2
            | with_reducible exact s1
            | with_reducible exact s0
            | go_keep)
          (first
            | (go_at_call_of 22 (Value.agg #[Value.string ⟨fd.n.toArray⟩, Value.string ⟨fd.d.toArray⟩]); refine (HC1x.out _ H2.out.drew.po).mono ?_; rintro e y1 ⟨rfl, hy⟩
               have g1 := H2.out.drew.here hy
               have s1 := HRT.out _ g1)
            | (go_at_call 65; refine (HNGx.out _ g1.pw).mono ?_; rintro e y2 ⟨rfl, hy⟩
               have g2 := g1.here hy
               have s2 := HRT.out _ g2)
            | (go_at_call_of 22 (Value.agg #[Value.string ⟨nd.n.toArray⟩, Value.string ⟨nd.d.toArray⟩]); refine (HC2x.out _ g2.po).mono ?_; rintro e y3 ⟨rfl, hy⟩
               have g3 := g2.here hy
               have s3 := HRT.out _ g3))
        all_goals
          go_wp2_with fail
          go_meet
          exact ⟨rfl, g3⟩
      case rest =>
      obtain ⟨rfl, H3⟩ := hcut
      have hk1 := HN.out.2.2
      go_wp2_with fail
      go_roundw
      case rel => exact ⟨k + 1, by omega, by go_num, HBR.out.trans (H3.out.bl.mono HBR.out.size)⟩
      case measure => simp [intOf]; omega
    · go_wp2_with fail
      first | go_ret | skip
      rw [HPO.out]
      exact ⟨rfl, HB4.out.trans (HBR.out.mono HB4.out.size)⟩
end Go.Proofs.YtndndphfblijpaaGreatDoor
/- The law LotmapQuantities: all plain facts that its walk asks for. -/
namespace Go.Proofs.YtndndphfblijpaaGreatDoor
open Go.RowKit Go.Shelf

theorem sumV_mapq {α : Type} (l : List α) (g : α → List UInt8) : sumV (l.map g) = (l.map (fun a => val (g a))).sum := by
  unfold sumV
  rw [List.map_map]
  rfl
theorem sum_posq {l : List Int} (h : ∀ x ∈ l, 0 < x) (hl : l ≠ []) : 0 < l.sum := by
  cases l with
  | nil => exact absurd rfl hl
  | cons a l =>
    have h1 := h a (by simp)
    have h2 := sum_nonneg_ (l := l) (fun x hx => by have := h x (by simp [hx]); omega)
    rw [List.sum_cons]
    omega
structure QuF (ls : List Lot) (m : Mp) (L : Nat) : Prop where
  T0 : 0 ≤ sumQ (lotsOf ls m.inst)
  Tl : (txtL (sumQ (lotsOf ls m.inst))).length ≤ 18
  ro : m.ratio.ok
  r0 : 0 < m.ratio.rat
  nw : sumQ (newOf ls (mapL ls m).1.lots) = flo (((sumQ (lotsOf ls m.inst) : Int) : Rat) * m.ratio.rat)
  Ul : (txtL (flo (((sumQ (lotsOf ls m.inst) : Int) : Rat) * m.ratio.rat))).length ≤ 100
  len : ls.length ≤ 1000
  ok : splitC (txtL (flo (((sumQ (lotsOf ls m.inst) : Int) : Rat) * m.ratio.rat))) ((lotsOf ls m.inst).map (·.q)) = 0
  sum : sumV ((lotsOf ls m.inst).map (fun y => txtL (madeOf (mapL ls m).1.steps y.id))) = flo (((sumQ (lotsOf ls m.inst) : Int) : Rat) * m.ratio.rat)
  fair : ∀ (i : Nat) (x y : List UInt8), ((lotsOf ls m.inst).map (fun y => txtL (madeOf (mapL ls m).1.steps y.id)))[i]? = some x → ((lotsOf ls m.inst).map (·.q))[i]? = some y →
    cmpR (Rat.divInt (val (txtL (flo (((sumQ (lotsOf ls m.inst) : Int) : Rat) * m.ratio.rat))) * val y) (sumV ((lotsOf ls m.inst).map (·.q))) - ((val x : Int) : Rat)) 1 < 0 ∧ cmpR (-(Rat.divInt (val (txtL (flo (((sumQ (lotsOf ls m.inst) : Int) : Rat) * m.ratio.rat))) * val y) (sumV ((lotsOf ls m.inst).map (·.q))) - ((val x : Int) : Rat))) 1 < 0
  pl : ∀ x ∈ (lotsOf ls m.inst).map (fun y => txtL (madeOf (mapL ls m).1.steps y.id)), x.length ≤ 200
theorem quant_facts {ls : List Lot} {m : Mp} (h : (mapL ls m).2 = 0) (ho : lotsOf ls m.inst ≠ []) (hq : ∀ y ∈ ls, y.q.length ≤ 13) (hc : ∀ y ∈ ls, y.c.length ≤ 13) (hr : m.ratio.Sz 10) (hp : m.price.Sz 10) : QuF ls m 0 := by
  obtain ⟨hl, hm, p1, p2, p3⟩ := quant_plain h ho
  have hok := lotsOf_ok hl m.inst
  have hn : (lotsOf ls m.inst).length ≤ 1000 := Nat.le_trans (lotsOf_len ls m.inst) hl.len
  have h0 : 0 ≤ sumQ (lotsOf ls m.inst) := sum_nonneg_ (old_nonneg hok).1
  have hT : (sumQ (lotsOf ls m.inst)).natAbs < 10 ^ 17 := sum_lt (fun y hy => val_lt' (hq y (List.mem_filter.1 hy).1)) hn
  have hrb := rb_mulq (rb_int hT (by omega)) ((sz_rb hr (by omega)).more (show 10 ≤ 17 by omega))
  have hS : 0 < sumQ (lotsOf ls m.inst) := sum_posq (fun x hx => by
    obtain ⟨y, hy, rfl⟩ := List.mem_map.1 hx
    exact (hok y hy).q0) (by simpa using ho)
  have hsv : sumV ((lotsOf ls m.inst).map (·.q)) = sumQ (lotsOf ls m.inst) := sumV_mapq _ _
  have hpa : (planL (lotsOf ls m.inst) m).parts = flo (((sumQ (lotsOf ls m.inst) : Int) : Rat) * m.ratio.rat) := rfl
  obtain ⟨s1, _⟩ := planL_sums hok hm ho
  have hK := planL_k (L := 13) hok hm hn (by omega) (fun y hy => hq y (List.mem_filter.1 hy).1) (fun y hy => hc y (List.mem_filter.1 hy).1) (hr.more (by omega)) (hp.more (by omega))
  refine ⟨h0, txtL_length (L := 17) hT, hm.ratio, hm.r0, by rw [p1, hpa], Nat.le_trans (txtL_length (flo_lt hrb (by omega))) (by omega), hl.len, ?_, ?_, ?_, ?_⟩
  · unfold splitC
    rw [if_neg (by simpa using ho), if_neg (by rw [List.length_map]; omega), if_neg, if_neg (by rw [hsv]; omega)]
    rw [not_or]
    refine ⟨by rw [canB_txtL]; decide, ?_⟩
    rw [Bool.not_eq_true, List.any_eq_false]
    intro x hx
    obtain ⟨y, hy, rfl⟩ := List.mem_map.1 hx
    have := (hok y hy).q0
    simp [(hok y hy).q]
    omega
  · rw [sumV_mapq]
    simp only [val_txtL]
    rw [p2, s1, hpa]
  · intro i x y hx hy
    rw [val_txtL, hsv]
    rw [List.getElem?_map] at hx
    obtain ⟨z, hz, rfl⟩ := Option.map_eq_some_iff.1 hx
    rw [List.getElem?_map, hz] at hy
    obtain rfl : z.q = y := by simpa using hy
    rw [val_txtL, ← hpa]
    have e1 : (posL (planL (lotsOf ls m.inst) m).parts ((lotsOf ls m.inst).map fun y => val y.q))[i]? = some (madeOf (mapL ls m).1.steps z.id) := by
      rw [← p3, ← p2, List.getElem?_map, hz]; rfl
    have e2 : ((lotsOf ls m.inst).map fun y : Lot => val y.q)[i]? = some (val z.q) := by rw [List.getElem?_map, hz]; rfl
    have e3 := fair_at (ws := (lotsOf ls m.inst).map fun y : Lot => val y.q) hS e1 e2
    exact e3
  · intro x hx
    obtain ⟨y, hy, rfl⟩ := List.mem_map.1 hx
    obtain ⟨i, hi, hiy⟩ := List.mem_iff_getElem.1 hy
    have e : madeOf (mapL ls m).1.steps y.id = (planL (lotsOf ls m.inst) m).n.getD i 0 := by
      rw [← p2, List.getD_eq_getElem?_getD, List.getElem?_map, List.getElem?_eq_getElem hi, hiy]; rfl
    rw [e]
    exact Nat.le_trans (txtL_length (hK.n i)) (by omega)
end Go.Proofs.YtndndphfblijpaaGreatDoor
