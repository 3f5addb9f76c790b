/- Merged texts: RTh, LTn. -/
import Derived.Test.YtpnncoinlopndaaGreatDoorQGTn28
import Derived.Deep.RegionWith
import Derived.Deep.DeepCutAuto
import Derived.Deep.DrawnRows
import Derived.Test.YtpnncoinlopndaaGreatDoorQGTn16
import Derived.Test.YtpnncoinlopndaaGreatDoorQGTn21
import Derived.Test.YtpnncoinlopndaaGreatDoorThqGTn
namespace Go.Proofs.YtpnncoinlopndaaGreatDoor
open Go.RowKit Go.Shelf
attribute [local go_sem ↓] Go.wp_at_zero Go.wp_at_succ
set_option maxRecDepth 100000 in
set_option maxHeartbeats 4000000 in
theorem rThen_any (a b : Mp) (w : World) (hp : Env w) (ha : a.Max) (hb : b.Max) (hra : a.ratio.Sz 15000) (hsa : a.share.Sz 15000) (hqa : a.price.Sz 15000) (hrb : b.ratio.Sz 15000) (hsb : b.share.Sz 15000) (hqb : b.price.Sz 15000) :
    Calls Tryz.prog 15 #[MpV a, MpV b] w (ThenPost (thenL a b) w) := by
  have HPO := Lib.hid (show ThenPost (thenL a b) w = fun e w' => e = .returned (.tuple #[MpV (thenL a b).1, .int .i64 (thenL a b).2]) ∧ Below w.heap.size w w' from rfl)
  generalize ThenPost (thenL a b) w = post at *
  have HTH := Lib.hid (show thenL a b = if mpC a ≠ 0 ∨ mpC b ≠ 0 then (Mp.none, 1) else if a.other ≠ b.inst ∨ a.keep = true ∨ b.keep = true then (Mp.none, 9) else ({ b with inst := a.inst, ratio := frOf (a.ratio.rat * b.ratio.rat) }, 0) from rfl)
  generalize thenL a b = th at *
  have HK0 := Lib.hid (show Kp w [(w.heap.size + 1 + 1, #[.string ⟨#[]⟩, .int .i64 0, .string ⟨#[]⟩, .string ⟨#[]⟩, .string ⟨#[]⟩, .string ⟨#[]⟩, .string ⟨#[]⟩, .string ⟨#[]⟩, .string ⟨#[]⟩, .string ⟨#[]⟩, .bool false], 28), (w.heap.size + 1, #[.string ⟨b.cause.toArray⟩, .int .i64 b.day, .string ⟨b.inst.toArray⟩, .string ⟨b.other.toArray⟩, .string ⟨b.ratio.n.toArray⟩, .string ⟨b.ratio.d.toArray⟩, .string ⟨b.share.n.toArray⟩, .string ⟨b.share.d.toArray⟩, .string ⟨b.price.n.toArray⟩, .string ⟨b.price.d.toArray⟩, .bool b.keep], 28), (w.heap.size, #[.string ⟨a.cause.toArray⟩, .int .i64 a.day, .string ⟨a.inst.toArray⟩, .string ⟨a.other.toArray⟩, .string ⟨a.ratio.n.toArray⟩, .string ⟨a.ratio.d.toArray⟩, .string ⟨a.share.n.toArray⟩, .string ⟨a.share.d.toArray⟩, .string ⟨a.price.n.toArray⟩, .string ⟨a.price.d.toArray⟩, .bool a.keep], 28)] (((w.alloc (.cells #[.string ⟨a.cause.toArray⟩, .int .i64 a.day, .string ⟨a.inst.toArray⟩, .string ⟨a.other.toArray⟩, .string ⟨a.ratio.n.toArray⟩, .string ⟨a.ratio.d.toArray⟩, .string ⟨a.share.n.toArray⟩, .string ⟨a.share.d.toArray⟩, .string ⟨a.price.n.toArray⟩, .string ⟨a.price.d.toArray⟩, .bool a.keep] 28)).alloc (.cells #[.string ⟨b.cause.toArray⟩, .int .i64 b.day, .string ⟨b.inst.toArray⟩, .string ⟨b.other.toArray⟩, .string ⟨b.ratio.n.toArray⟩, .string ⟨b.ratio.d.toArray⟩, .string ⟨b.share.n.toArray⟩, .string ⟨b.share.d.toArray⟩, .string ⟨b.price.n.toArray⟩, .string ⟨b.price.d.toArray⟩, .bool b.keep] 28)).alloc (.cells #[.string ⟨#[]⟩, .int .i64 0, .string ⟨#[]⟩, .string ⟨#[]⟩, .string ⟨#[]⟩, .string ⟨#[]⟩, .string ⟨#[]⟩, .string ⟨#[]⟩, .string ⟨#[]⟩, .string ⟨#[]⟩, .bool false] 28)) from (((Kp.start hp).new w.heap.size rfl _ _).new (w.heap.size + 1) (by simp) _ _).new (w.heap.size + 1 + 1) (by simp) _ _)
  have HCA := Lib.hid (rmCheck_any a ha hra hsa hqa); have HCB := Lib.hid (rmCheck_any b hb hrb hsb hqb)
  have HMU := Lib.hid (fun W => zMul_any a.ratio b.ratio W (hra.more (by omega)) (hrb.more (by omega)))
  have HP := Lib.hid hp
  clear hp ha hb hra hrb hsa hqa hsb hqb
  unfold MpV at HCA HCB ⊢
  rw [mpA_eq] at HCA HCB
  rw [mpA_eq, mpA_eq]
  unfold FracPost FrV S at HMU
  generalize frOf (a.ratio.rat * b.ratio.rat) = fm at *
  generalize mpC a = ca at *
  generalize mpC b = cb at *
  obtain ⟨a0, a1, a2, a3, a4, a5, a6, a7, a8, a9, a10⟩ := z11 HK0.out (i := 2) rfl
  by_cases h1 : ca = 0
  · subst h1
    by_cases h2 : cb = 0
    · subst h2
      rw [if_neg (by simp)] at HTH
      go_enter Tryz.func15, Tryz.ntmps15
      go_wp2_with fail
      generalize (((w.alloc (.cells #[.string ⟨a.cause.toArray⟩, .int .i64 a.day, .string ⟨a.inst.toArray⟩, .string ⟨a.other.toArray⟩, .string ⟨a.ratio.n.toArray⟩, .string ⟨a.ratio.d.toArray⟩, .string ⟨a.share.n.toArray⟩, .string ⟨a.share.d.toArray⟩, .string ⟨a.price.n.toArray⟩, .string ⟨a.price.d.toArray⟩, .bool a.keep] 28)).alloc (.cells #[.string ⟨b.cause.toArray⟩, .int .i64 b.day, .string ⟨b.inst.toArray⟩, .string ⟨b.other.toArray⟩, .string ⟨b.ratio.n.toArray⟩, .string ⟨b.ratio.d.toArray⟩, .string ⟨b.share.n.toArray⟩, .string ⟨b.share.d.toArray⟩, .string ⟨b.price.n.toArray⟩, .string ⟨b.price.d.toArray⟩, .bool b.keep] 28)).alloc (.cells #[.string ⟨#[]⟩, .int .i64 0, .string ⟨#[]⟩, .string ⟨#[]⟩, .string ⟨#[]⟩, .string ⟨#[]⟩, .string ⟨#[]⟩, .string ⟨#[]⟩, .string ⟨#[]⟩, .string ⟨#[]⟩, .bool false] 28)) = W0 at *
      refine (HCA.out _ HK0.out.pw).mono ?_
      rintro e w1 ⟨rfl, hb1⟩
      have HK1 := Lib.hid (HK0.out.here hb1)
      clear hb1 a0 a1 a2 a3 a4 a5 a6 a7 a8 a9 a10 HK0
      obtain ⟨b0, b1, b2, b3, b4, b5, b6, b7, b8, b9, b10⟩ := z11 HK1.out (i := 1) rfl
      go_wp2_with fail
      refine (HCB.out _ HK1.out.pw).mono ?_
      rintro e w2 ⟨rfl, hb2⟩
      have HK2 := Lib.hid (HK1.out.here hb2)
      clear hb2 b0 b1 b2 b3 b4 b5 b6 b7 b8 b9 b10 HK1
      obtain ⟨a0, a1, a2, a3, a4, a5, a6, a7, a8, a9, a10⟩ := z11 HK2.out (i := 2) rfl
      obtain ⟨b0, b1, b2, b3, b4, b5, b6, b7, b8, b9, b10⟩ := z11 HK2.out (i := 1) rfl
      by_cases g1 : a.other = b.inst
      · cases g2 : a.keep with
        | true =>
          rw [if_pos (.inr (.inl g2))] at HTH
          have q1 : (a.other == b.inst) = true := by simp [g1]
          have q2 : (a.other != b.inst) = false := by simp [g1]
          rw [g2] at a10
          clear g1
          have n0 := HK2.out.c 0 0 rfl rfl; have n1 := HK2.out.c 0 1 rfl rfl; have n2 := HK2.out.c 0 2 rfl rfl; have n3 := HK2.out.c 0 3 rfl rfl; have n4 := HK2.out.c 0 4 rfl rfl; have n5 := HK2.out.c 0 5 rfl rfl; have n6 := HK2.out.c 0 6 rfl rfl; have n7 := HK2.out.c 0 7 rfl rfl; have n8 := HK2.out.c 0 8 rfl rfl; have n9 := HK2.out.c 0 9 rfl rfl; have n10 := HK2.out.c 0 10 rfl rfl
          have f0 := HK2.out.f 0 0 rfl; have f1 := HK2.out.f 0 1 rfl; have f2 := HK2.out.f 0 2 rfl; have f3 := HK2.out.f 0 3 rfl; have f4 := HK2.out.f 0 4 rfl; have f5 := HK2.out.f 0 5 rfl; have f6 := HK2.out.f 0 6 rfl; have f7 := HK2.out.f 0 7 rfl; have f8 := HK2.out.f 0 8 rfl; have f9 := HK2.out.f 0 9 rfl; have f10 := HK2.out.f 0 10 rfl
          have HE := Lib.hid (kp_sets11 HK2.out (i := 0) rfl (.string ⟨#[]⟩) (.int .i64 0) (.string ⟨#[]⟩) (.string ⟨#[]⟩) (.string ⟨#[]⟩) (.string ⟨#[]⟩) (.string ⟨#[]⟩) (.string ⟨#[]⟩) (.string ⟨#[]⟩) (.string ⟨#[]⟩) (.bool false))
          go_wp2_with fail
          obtain ⟨m0, m1, m2, m3, m4, m5, m6, m7, m8, m9, m10⟩ := z11 HE.out (i := 0) rfl
          refine bodyPost_ret (v := .tuple #[.agg #[.string ⟨#[]⟩, .int .i64 0, .string ⟨#[]⟩, .string ⟨#[]⟩, .string ⟨#[]⟩, .string ⟨#[]⟩, .string ⟨#[]⟩, .string ⟨#[]⟩, .string ⟨#[]⟩, .string ⟨#[]⟩, .bool false], .int .i64 9]) (by simp [results, Tryz.results15, go_sem, m0, m1, m2, m3, m4, m5, m6, m7, m8, m9, m10]) rfl ?_
          rw [HPO.out, HTH.out]
          exact ⟨rfl, HE.out.bl⟩
        | false =>
          cases g3 : b.keep with
          | true =>
            rw [if_pos (.inr (.inr g3))] at HTH
            have q1 : (a.other == b.inst) = true := by simp [g1]
            have q2 : (a.other != b.inst) = false := by simp [g1]
            rw [g2] at a10
            rw [g3] at b10
            clear g1
            have n0 := HK2.out.c 0 0 rfl rfl; have n1 := HK2.out.c 0 1 rfl rfl; have n2 := HK2.out.c 0 2 rfl rfl; have n3 := HK2.out.c 0 3 rfl rfl; have n4 := HK2.out.c 0 4 rfl rfl; have n5 := HK2.out.c 0 5 rfl rfl; have n6 := HK2.out.c 0 6 rfl rfl; have n7 := HK2.out.c 0 7 rfl rfl; have n8 := HK2.out.c 0 8 rfl rfl; have n9 := HK2.out.c 0 9 rfl rfl; have n10 := HK2.out.c 0 10 rfl rfl
            have f0 := HK2.out.f 0 0 rfl; have f1 := HK2.out.f 0 1 rfl; have f2 := HK2.out.f 0 2 rfl; have f3 := HK2.out.f 0 3 rfl; have f4 := HK2.out.f 0 4 rfl; have f5 := HK2.out.f 0 5 rfl; have f6 := HK2.out.f 0 6 rfl; have f7 := HK2.out.f 0 7 rfl; have f8 := HK2.out.f 0 8 rfl; have f9 := HK2.out.f 0 9 rfl; have f10 := HK2.out.f 0 10 rfl
            have HE := Lib.hid (kp_sets11 HK2.out (i := 0) rfl (.string ⟨#[]⟩) (.int .i64 0) (.string ⟨#[]⟩) (.string ⟨#[]⟩) (.string ⟨#[]⟩) (.string ⟨#[]⟩) (.string ⟨#[]⟩) (.string ⟨#[]⟩) (.string ⟨#[]⟩) (.string ⟨#[]⟩) (.bool false))
            go_wp2_with fail
            obtain ⟨m0, m1, m2, m3, m4, m5, m6, m7, m8, m9, m10⟩ := z11 HE.out (i := 0) rfl
            refine bodyPost_ret (v := .tuple #[.agg #[.string ⟨#[]⟩, .int .i64 0, .string ⟨#[]⟩, .string ⟨#[]⟩, .string ⟨#[]⟩, .string ⟨#[]⟩, .string ⟨#[]⟩, .string ⟨#[]⟩, .string ⟨#[]⟩, .string ⟨#[]⟩, .bool false], .int .i64 9]) (by simp [results, Tryz.results15, go_sem, m0, m1, m2, m3, m4, m5, m6, m7, m8, m9, m10]) rfl ?_
            rw [HPO.out, HTH.out]
            exact ⟨rfl, HE.out.bl⟩
          | false =>
            rw [if_neg (by rw [g2, g3]; simp [g1])] at HTH
            have q1 : (a.other == b.inst) = true := by simp [g1]
            have q2 : (a.other != b.inst) = false := by simp [g1]
            rw [g2] at a10
            rw [g3] at b10
            clear g1
            have hne1 : w.heap.size ≠ w.heap.size + 1 := by omega
            go_upto_region 5 with (fail)
            go_region_with ((go_at_call 56; refine (HMU.out _).mono ?_; rintro e w5 ⟨rfl, hb5⟩; (try unfold FracPost FrV S); have HK5 := Lib.hid (HK2.out.here ((Below.refl _ w2).drew.trans hb5)); have g2 := HK5.out.f 1 2 rfl; have g4 := HK5.out.f 1 4 rfl; have g5 := HK5.out.f 1 5 rfl; have j2 := HK5.out.c 1 2 rfl rfl; have j4 := HK5.out.c 1 4 rfl rfl; have j5 := HK5.out.c 1 5 rfl rfl; have i2 := HK5.out.c 2 2 rfl rfl))
            all_goals
              have h0 := ((HK5.out.set 1 2 rfl (.string ⟨a.inst.toArray⟩)).set 1 4 rfl (.string ⟨fm.n.toArray⟩)).set 1 5 rfl (.string ⟨fm.d.toArray⟩)
              have HE0 := Lib.hid (show Kp w [(w.heap.size + 1 + 1, #[.string ⟨#[]⟩, .int .i64 0, .string ⟨#[]⟩, .string ⟨#[]⟩, .string ⟨#[]⟩, .string ⟨#[]⟩, .string ⟨#[]⟩, .string ⟨#[]⟩, .string ⟨#[]⟩, .string ⟨#[]⟩, .bool false], 28), (w.heap.size + 1, #[.string ⟨b.cause.toArray⟩, .int .i64 b.day, .string ⟨a.inst.toArray⟩, .string ⟨b.other.toArray⟩, .string ⟨fm.n.toArray⟩, .string ⟨fm.d.toArray⟩, .string ⟨b.share.n.toArray⟩, .string ⟨b.share.d.toArray⟩, .string ⟨b.price.n.toArray⟩, .string ⟨b.price.d.toArray⟩, .bool false], 28), (w.heap.size, #[.string ⟨a.cause.toArray⟩, .int .i64 a.day, .string ⟨a.inst.toArray⟩, .string ⟨a.other.toArray⟩, .string ⟨a.ratio.n.toArray⟩, .string ⟨a.ratio.d.toArray⟩, .string ⟨a.share.n.toArray⟩, .string ⟨a.share.d.toArray⟩, .string ⟨a.price.n.toArray⟩, .string ⟨a.price.d.toArray⟩, .bool a.keep], 28)] (((w5.setCell ⟨w.heap.size + 1, 2, none⟩ (.string ⟨a.inst.toArray⟩)).setCell ⟨w.heap.size + 1, 4, none⟩ (.string ⟨fm.n.toArray⟩)).setCell ⟨w.heap.size + 1, 5, none⟩ (.string ⟨fm.d.toArray⟩)) from (by rw [g3] at h0; exact h0))
              clear h0 a0 a1 a2 a3 a4 a5 a6 a7 a8 a9 a10 b0 b1 b2 b3 b4 b5 b6 b7 b8 b9 b10
              try clear g2 g4 g5 j2 j4 j5 i2
              generalize (((w5.setCell ⟨w.heap.size + 1, 2, none⟩ (.string ⟨a.inst.toArray⟩)).setCell ⟨w.heap.size + 1, 4, none⟩ (.string ⟨fm.n.toArray⟩)).setCell ⟨w.heap.size + 1, 5, none⟩ (.string ⟨fm.d.toArray⟩)) = W9 at *
              obtain ⟨b0, b1, b2, b3, b4, b5, b6, b7, b8, b9, b10⟩ := z11 HE0.out (i := 1) rfl
              obtain ⟨m0, m1, m2, m3, m4, m5, m6, m7, m8, m9, m10⟩ := z11 HE0.out (i := 0) rfl
              have f0 := HE0.out.f 0 0 rfl; have f1 := HE0.out.f 0 1 rfl; have f2 := HE0.out.f 0 2 rfl; have f3 := HE0.out.f 0 3 rfl; have f4 := HE0.out.f 0 4 rfl; have f5 := HE0.out.f 0 5 rfl; have f6 := HE0.out.f 0 6 rfl; have f7 := HE0.out.f 0 7 rfl; have f8 := HE0.out.f 0 8 rfl; have f9 := HE0.out.f 0 9 rfl; have f10 := HE0.out.f 0 10 rfl
              have HE := Lib.hid (kp_sets11 HE0.out (i := 0) rfl (.string ⟨b.cause.toArray⟩) (.int .i64 b.day) (.string ⟨a.inst.toArray⟩) (.string ⟨b.other.toArray⟩) (.string ⟨fm.n.toArray⟩) (.string ⟨fm.d.toArray⟩) (.string ⟨b.share.n.toArray⟩) (.string ⟨b.share.d.toArray⟩) (.string ⟨b.price.n.toArray⟩) (.string ⟨b.price.d.toArray⟩) (.bool false))
              go_wp2_with fail
              obtain ⟨r0, r1, r2, r3, r4, r5, r6, r7, r8, r9, r10⟩ := z11 HE.out (i := 0) rfl
              refine bodyPost_ret (v := .tuple #[.agg #[.string ⟨b.cause.toArray⟩, .int .i64 b.day, .string ⟨a.inst.toArray⟩, .string ⟨b.other.toArray⟩, .string ⟨fm.n.toArray⟩, .string ⟨fm.d.toArray⟩, .string ⟨b.share.n.toArray⟩, .string ⟨b.share.d.toArray⟩, .string ⟨b.price.n.toArray⟩, .string ⟨b.price.d.toArray⟩, .bool false], .int .i64 0]) (by simp [results, Tryz.results15, go_sem, r0, r1, r2, r3, r4, r5, r6, r7, r8, r9, r10]) rfl ?_
              rw [HPO.out, HTH.out]
              refine ⟨?_, HE.out.bl⟩
              unfold MpV
              rw [mpA_eq, g3]
      · rw [if_pos (.inl g1)] at HTH
        have q1 : (a.other == b.inst) = false := by simpa using g1
        have q2 : (a.other != b.inst) = true := by simpa using g1
        clear g1
        have n0 := HK2.out.c 0 0 rfl rfl; have n1 := HK2.out.c 0 1 rfl rfl; have n2 := HK2.out.c 0 2 rfl rfl; have n3 := HK2.out.c 0 3 rfl rfl; have n4 := HK2.out.c 0 4 rfl rfl; have n5 := HK2.out.c 0 5 rfl rfl; have n6 := HK2.out.c 0 6 rfl rfl; have n7 := HK2.out.c 0 7 rfl rfl; have n8 := HK2.out.c 0 8 rfl rfl; have n9 := HK2.out.c 0 9 rfl rfl; have n10 := HK2.out.c 0 10 rfl rfl
        have f0 := HK2.out.f 0 0 rfl; have f1 := HK2.out.f 0 1 rfl; have f2 := HK2.out.f 0 2 rfl; have f3 := HK2.out.f 0 3 rfl; have f4 := HK2.out.f 0 4 rfl; have f5 := HK2.out.f 0 5 rfl; have f6 := HK2.out.f 0 6 rfl; have f7 := HK2.out.f 0 7 rfl; have f8 := HK2.out.f 0 8 rfl; have f9 := HK2.out.f 0 9 rfl; have f10 := HK2.out.f 0 10 rfl
        have HE := Lib.hid (kp_sets11 HK2.out (i := 0) rfl (.string ⟨#[]⟩) (.int .i64 0) (.string ⟨#[]⟩) (.string ⟨#[]⟩) (.string ⟨#[]⟩) (.string ⟨#[]⟩) (.string ⟨#[]⟩) (.string ⟨#[]⟩) (.string ⟨#[]⟩) (.string ⟨#[]⟩) (.bool false))
        go_wp2_with fail
        obtain ⟨m0, m1, m2, m3, m4, m5, m6, m7, m8, m9, m10⟩ := z11 HE.out (i := 0) rfl
        refine bodyPost_ret (v := .tuple #[.agg #[.string ⟨#[]⟩, .int .i64 0, .string ⟨#[]⟩, .string ⟨#[]⟩, .string ⟨#[]⟩, .string ⟨#[]⟩, .string ⟨#[]⟩, .string ⟨#[]⟩, .string ⟨#[]⟩, .string ⟨#[]⟩, .bool false], .int .i64 9]) (by simp [results, Tryz.results15, go_sem, m0, m1, m2, m3, m4, m5, m6, m7, m8, m9, m10]) rfl ?_
        rw [HPO.out, HTH.out]
        exact ⟨rfl, HE.out.bl⟩
    · rw [if_pos (.inr h2)] at HTH
      have h2' : (cb != 0) = true := by simpa using h2
      clear h2
      go_enter Tryz.func15, Tryz.ntmps15
      go_wp2_with fail
      generalize (((w.alloc (.cells #[.string ⟨a.cause.toArray⟩, .int .i64 a.day, .string ⟨a.inst.toArray⟩, .string ⟨a.other.toArray⟩, .string ⟨a.ratio.n.toArray⟩, .string ⟨a.ratio.d.toArray⟩, .string ⟨a.share.n.toArray⟩, .string ⟨a.share.d.toArray⟩, .string ⟨a.price.n.toArray⟩, .string ⟨a.price.d.toArray⟩, .bool a.keep] 28)).alloc (.cells #[.string ⟨b.cause.toArray⟩, .int .i64 b.day, .string ⟨b.inst.toArray⟩, .string ⟨b.other.toArray⟩, .string ⟨b.ratio.n.toArray⟩, .string ⟨b.ratio.d.toArray⟩, .string ⟨b.share.n.toArray⟩, .string ⟨b.share.d.toArray⟩, .string ⟨b.price.n.toArray⟩, .string ⟨b.price.d.toArray⟩, .bool b.keep] 28)).alloc (.cells #[.string ⟨#[]⟩, .int .i64 0, .string ⟨#[]⟩, .string ⟨#[]⟩, .string ⟨#[]⟩, .string ⟨#[]⟩, .string ⟨#[]⟩, .string ⟨#[]⟩, .string ⟨#[]⟩, .string ⟨#[]⟩, .bool false] 28)) = W0 at *
      refine (HCA.out _ HK0.out.pw).mono ?_
      rintro e w1 ⟨rfl, hb1⟩
      have HK1 := Lib.hid (HK0.out.here hb1)
      clear hb1 a0 a1 a2 a3 a4 a5 a6 a7 a8 a9 a10 HK0
      obtain ⟨b0, b1, b2, b3, b4, b5, b6, b7, b8, b9, b10⟩ := z11 HK1.out (i := 1) rfl
      go_wp2_with fail
      refine (HCB.out _ HK1.out.pw).mono ?_
      rintro e w2 ⟨rfl, hb2⟩
      have HK2 := Lib.hid (HK1.out.here hb2)
      clear hb2 b0 b1 b2 b3 b4 b5 b6 b7 b8 b9 b10 HK1
      have n0 := HK2.out.c 0 0 rfl rfl; have n1 := HK2.out.c 0 1 rfl rfl; have n2 := HK2.out.c 0 2 rfl rfl; have n3 := HK2.out.c 0 3 rfl rfl; have n4 := HK2.out.c 0 4 rfl rfl; have n5 := HK2.out.c 0 5 rfl rfl; have n6 := HK2.out.c 0 6 rfl rfl; have n7 := HK2.out.c 0 7 rfl rfl; have n8 := HK2.out.c 0 8 rfl rfl; have n9 := HK2.out.c 0 9 rfl rfl; have n10 := HK2.out.c 0 10 rfl rfl
      have f0 := HK2.out.f 0 0 rfl; have f1 := HK2.out.f 0 1 rfl; have f2 := HK2.out.f 0 2 rfl; have f3 := HK2.out.f 0 3 rfl; have f4 := HK2.out.f 0 4 rfl; have f5 := HK2.out.f 0 5 rfl; have f6 := HK2.out.f 0 6 rfl; have f7 := HK2.out.f 0 7 rfl; have f8 := HK2.out.f 0 8 rfl; have f9 := HK2.out.f 0 9 rfl; have f10 := HK2.out.f 0 10 rfl
      have HE := Lib.hid (kp_sets11 HK2.out (i := 0) rfl (.string ⟨#[]⟩) (.int .i64 0) (.string ⟨#[]⟩) (.string ⟨#[]⟩) (.string ⟨#[]⟩) (.string ⟨#[]⟩) (.string ⟨#[]⟩) (.string ⟨#[]⟩) (.string ⟨#[]⟩) (.string ⟨#[]⟩) (.bool false))
      go_wp2_with fail
      obtain ⟨m0, m1, m2, m3, m4, m5, m6, m7, m8, m9, m10⟩ := z11 HE.out (i := 0) rfl
      refine bodyPost_ret (v := .tuple #[.agg #[.string ⟨#[]⟩, .int .i64 0, .string ⟨#[]⟩, .string ⟨#[]⟩, .string ⟨#[]⟩, .string ⟨#[]⟩, .string ⟨#[]⟩, .string ⟨#[]⟩, .string ⟨#[]⟩, .string ⟨#[]⟩, .bool false], .int .i64 1]) (by simp [results, Tryz.results15, go_sem, m0, m1, m2, m3, m4, m5, m6, m7, m8, m9, m10]) rfl ?_
      rw [HPO.out, HTH.out]
      exact ⟨rfl, HE.out.bl⟩
  · rw [if_pos (.inl h1)] at HTH
    have h1' : (ca != 0) = true := by simpa using h1
    clear h1
    go_enter Tryz.func15, Tryz.ntmps15
    go_wp2_with fail
    generalize (((w.alloc (.cells #[.string ⟨a.cause.toArray⟩, .int .i64 a.day, .string ⟨a.inst.toArray⟩, .string ⟨a.other.toArray⟩, .string ⟨a.ratio.n.toArray⟩, .string ⟨a.ratio.d.toArray⟩, .string ⟨a.share.n.toArray⟩, .string ⟨a.share.d.toArray⟩, .string ⟨a.price.n.toArray⟩, .string ⟨a.price.d.toArray⟩, .bool a.keep] 28)).alloc (.cells #[.string ⟨b.cause.toArray⟩, .int .i64 b.day, .string ⟨b.inst.toArray⟩, .string ⟨b.other.toArray⟩, .string ⟨b.ratio.n.toArray⟩, .string ⟨b.ratio.d.toArray⟩, .string ⟨b.share.n.toArray⟩, .string ⟨b.share.d.toArray⟩, .string ⟨b.price.n.toArray⟩, .string ⟨b.price.d.toArray⟩, .bool b.keep] 28)).alloc (.cells #[.string ⟨#[]⟩, .int .i64 0, .string ⟨#[]⟩, .string ⟨#[]⟩, .string ⟨#[]⟩, .string ⟨#[]⟩, .string ⟨#[]⟩, .string ⟨#[]⟩, .string ⟨#[]⟩, .string ⟨#[]⟩, .bool false] 28)) = W0 at *
    refine (HCA.out _ HK0.out.pw).mono ?_
    rintro e w1 ⟨rfl, hb1⟩
    have HK1 := Lib.hid (HK0.out.here hb1)
    clear hb1 a0 a1 a2 a3 a4 a5 a6 a7 a8 a9 a10
    have n0 := HK1.out.c 0 0 rfl rfl; have n1 := HK1.out.c 0 1 rfl rfl; have n2 := HK1.out.c 0 2 rfl rfl; have n3 := HK1.out.c 0 3 rfl rfl; have n4 := HK1.out.c 0 4 rfl rfl; have n5 := HK1.out.c 0 5 rfl rfl; have n6 := HK1.out.c 0 6 rfl rfl; have n7 := HK1.out.c 0 7 rfl rfl; have n8 := HK1.out.c 0 8 rfl rfl; have n9 := HK1.out.c 0 9 rfl rfl; have n10 := HK1.out.c 0 10 rfl rfl
    have f0 := HK1.out.f 0 0 rfl; have f1 := HK1.out.f 0 1 rfl; have f2 := HK1.out.f 0 2 rfl; have f3 := HK1.out.f 0 3 rfl; have f4 := HK1.out.f 0 4 rfl; have f5 := HK1.out.f 0 5 rfl; have f6 := HK1.out.f 0 6 rfl; have f7 := HK1.out.f 0 7 rfl; have f8 := HK1.out.f 0 8 rfl; have f9 := HK1.out.f 0 9 rfl; have f10 := HK1.out.f 0 10 rfl
    have HE := Lib.hid (kp_sets11 HK1.out (i := 0) rfl (.string ⟨#[]⟩) (.int .i64 0) (.string ⟨#[]⟩) (.string ⟨#[]⟩) (.string ⟨#[]⟩) (.string ⟨#[]⟩) (.string ⟨#[]⟩) (.string ⟨#[]⟩) (.string ⟨#[]⟩) (.string ⟨#[]⟩) (.bool false))
    go_wp2_with fail
    obtain ⟨m0, m1, m2, m3, m4, m5, m6, m7, m8, m9, m10⟩ := z11 HE.out (i := 0) rfl
    refine bodyPost_ret (v := .tuple #[.agg #[.string ⟨#[]⟩, .int .i64 0, .string ⟨#[]⟩, .string ⟨#[]⟩, .string ⟨#[]⟩, .string ⟨#[]⟩, .string ⟨#[]⟩, .string ⟨#[]⟩, .string ⟨#[]⟩, .string ⟨#[]⟩, .bool false], .int .i64 1]) (by simp [results, Tryz.results15, go_sem, m0, m1, m2, m3, m4, m5, m6, m7, m8, m9, m10]) rfl ?_
    rw [HPO.out, HTH.out]
    exact ⟨rfl, HE.out.bl⟩
end Go.Proofs.YtpnncoinlopndaaGreatDoor

namespace Go.Proofs.YtpnncoinlopndaaGreatDoor
open Go.RowKit Go.Shelf
attribute [local go_sem ↓] Go.wp_at_zero Go.wp_at_succ
set_option maxRecDepth 100000 in
set_option maxHeartbeats 4000000 in
theorem thens_walk (a b : Mp) (w : World) (hp : Env w) (hma : a.Max) (hda : -9223372036854775808 ≤ a.day ∧ a.day ≤ 9223372036854775807) (hmb : b.Max) (hdb : -9223372036854775808 ≤ b.day ∧ b.day ≤ 9223372036854775807) :
    Calls Tryz.prog 4 #[MpV a, MpV b] w fun e w' => e = .returned (.bool true) ∧ Below w.heap.size w w' := by
  have HLA := Lib.hid (fun W => lwLong_any a W hma)
  have HLB := Lib.hid (fun W => lwLong_any b W hmb)
  have HAW := Lib.hid (fun W (hb : Below w.heap.size w W) => lwAwake_any W (hp.here hb))
  have HK0 := Lib.hid (show Kp w [(w.heap.size + 1, #[.string ⟨b.cause.toArray⟩, .int .i64 b.day, .string ⟨b.inst.toArray⟩, .string ⟨b.other.toArray⟩, .string ⟨b.ratio.n.toArray⟩, .string ⟨b.ratio.d.toArray⟩, .string ⟨b.share.n.toArray⟩, .string ⟨b.share.d.toArray⟩, .string ⟨b.price.n.toArray⟩, .string ⟨b.price.d.toArray⟩, .bool b.keep], 28), (w.heap.size, #[.string ⟨a.cause.toArray⟩, .int .i64 a.day, .string ⟨a.inst.toArray⟩, .string ⟨a.other.toArray⟩, .string ⟨a.ratio.n.toArray⟩, .string ⟨a.ratio.d.toArray⟩, .string ⟨a.share.n.toArray⟩, .string ⟨a.share.d.toArray⟩, .string ⟨a.price.n.toArray⟩, .string ⟨a.price.d.toArray⟩, .bool a.keep], 28)] ((w.alloc (.cells #[.string ⟨a.cause.toArray⟩, .int .i64 a.day, .string ⟨a.inst.toArray⟩, .string ⟨a.other.toArray⟩, .string ⟨a.ratio.n.toArray⟩, .string ⟨a.ratio.d.toArray⟩, .string ⟨a.share.n.toArray⟩, .string ⟨a.share.d.toArray⟩, .string ⟨a.price.n.toArray⟩, .string ⟨a.price.d.toArray⟩, .bool a.keep] 28)).alloc (.cells #[.string ⟨b.cause.toArray⟩, .int .i64 b.day, .string ⟨b.inst.toArray⟩, .string ⟨b.other.toArray⟩, .string ⟨b.ratio.n.toArray⟩, .string ⟨b.ratio.d.toArray⟩, .string ⟨b.share.n.toArray⟩, .string ⟨b.share.d.toArray⟩, .string ⟨b.price.n.toArray⟩, .string ⟨b.price.d.toArray⟩, .bool b.keep] 28)) from ((Kp.start hp).new w.heap.size rfl _ _).new (w.heap.size + 1) (by simp) _ _)
  obtain ⟨a0, a1, a2, a3, a4, a5, a6, a7, a8, a9, a10⟩ := z11 HK0.out (i := 1) rfl
  unfold MpV at HLA HLB ⊢
  rw [mpA_eq] at HLA HLB
  rw [mpA_eq, mpA_eq]
  cases hg : longM a with
  | true =>
    rw [hg] at HLA
    clear hp hma hmb hda hdb hg
    go_enter Tryz.func4, Tryz.ntmps4
    go_wp2_with fail
    generalize ((w.alloc (.cells #[.string ⟨a.cause.toArray⟩, .int .i64 a.day, .string ⟨a.inst.toArray⟩, .string ⟨a.other.toArray⟩, .string ⟨a.ratio.n.toArray⟩, .string ⟨a.ratio.d.toArray⟩, .string ⟨a.share.n.toArray⟩, .string ⟨a.share.d.toArray⟩, .string ⟨a.price.n.toArray⟩, .string ⟨a.price.d.toArray⟩, .bool a.keep] 28)).alloc (.cells #[.string ⟨b.cause.toArray⟩, .int .i64 b.day, .string ⟨b.inst.toArray⟩, .string ⟨b.other.toArray⟩, .string ⟨b.ratio.n.toArray⟩, .string ⟨b.ratio.d.toArray⟩, .string ⟨b.share.n.toArray⟩, .string ⟨b.share.d.toArray⟩, .string ⟨b.price.n.toArray⟩, .string ⟨b.price.d.toArray⟩, .bool b.keep] 28)) = W0 at *
    refine (HLA.out _).mono ?_
    rintro e w1 ⟨rfl, hb1⟩
    have HK1 := Lib.hid (HK0.out.here hb1)
    clear a0 a1 a2 a3 a4 a5 a6 a7 a8 a9 a10 hb1
    go_wp2_with fail
    refine (HAW.out _ HK1.out.bl).mono ?_
    rintro e wz ⟨rfl, hbz⟩
    go_wp2_with fail
    first | go_ret | skip
    exact ⟨rfl, (HK1.out.here hbz).bl⟩
  | false =>
    rw [hg] at HLA
    obtain ⟨har, hash, hapr, haz⟩ := longM_no hg hda.1 hda.2
    cases hg2 : longM b with
    | true =>
      rw [hg2] at HLB
      clear hp hma hmb hda hdb hg hg2 har hash hapr haz
      go_enter Tryz.func4, Tryz.ntmps4
      go_wp2_with fail
      generalize ((w.alloc (.cells #[.string ⟨a.cause.toArray⟩, .int .i64 a.day, .string ⟨a.inst.toArray⟩, .string ⟨a.other.toArray⟩, .string ⟨a.ratio.n.toArray⟩, .string ⟨a.ratio.d.toArray⟩, .string ⟨a.share.n.toArray⟩, .string ⟨a.share.d.toArray⟩, .string ⟨a.price.n.toArray⟩, .string ⟨a.price.d.toArray⟩, .bool a.keep] 28)).alloc (.cells #[.string ⟨b.cause.toArray⟩, .int .i64 b.day, .string ⟨b.inst.toArray⟩, .string ⟨b.other.toArray⟩, .string ⟨b.ratio.n.toArray⟩, .string ⟨b.ratio.d.toArray⟩, .string ⟨b.share.n.toArray⟩, .string ⟨b.share.d.toArray⟩, .string ⟨b.price.n.toArray⟩, .string ⟨b.price.d.toArray⟩, .bool b.keep] 28)) = W0 at *
      refine (HLA.out _).mono ?_
      rintro e w1 ⟨rfl, hb1⟩
      have HK1 := Lib.hid (HK0.out.here hb1)
      clear a0 a1 a2 a3 a4 a5 a6 a7 a8 a9 a10 hb1
      obtain ⟨b0, b1, b2, b3, b4, b5, b6, b7, b8, b9, b10⟩ := z11 HK1.out (i := 0) rfl
      go_wp2_with fail
      refine (HLB.out _).mono ?_
      rintro e w2 ⟨rfl, hb2⟩
      have HK2 := Lib.hid (HK1.out.here hb2)
      clear b0 b1 b2 b3 b4 b5 b6 b7 b8 b9 b10 hb2
      go_wp2_with fail
      refine (HAW.out _ HK2.out.bl).mono ?_
      rintro e wz ⟨rfl, hbz⟩
      go_wp2_with fail
      first | go_ret | skip
      exact ⟨rfl, (HK2.out.here hbz).bl⟩
    | false =>
      rw [hg2] at HLB
      obtain ⟨hbr, hbsh, hbpr, hbz⟩ := longM_no hg2 hdb.1 hdb.2
      have HTH := Lib.hid (fun W hW => then_any a b W hW (haz.imp (fun h => h.more (by omega)) id) (hbz.imp (fun h => h.more (by omega)) id) (har.more (by omega)) (hbr.more (by omega)))
      have HTR := Lib.hid (fun W hW => rThen_any a b W hW hma hmb (har.more (by omega)) (hash.more (by omega)) (hapr.more (by omega)) (hbr.more (by omega)) (hbsh.more (by omega)) (hbpr.more (by omega)))
      clear hp hma hmb hda hdb hg hg2 har hash hapr haz hbr hbsh hbpr hbz
      unfold ThenPost MpV at HTH HTR
      rw [mpA_eq, mpA_eq, mpA_eq] at HTH HTR
      generalize (thenL a b).1 = d at *
      generalize (thenL a b).2 = er at *
      go_enter Tryz.func4, Tryz.ntmps4
      go_wp2_with fail
      generalize ((w.alloc (.cells #[.string ⟨a.cause.toArray⟩, .int .i64 a.day, .string ⟨a.inst.toArray⟩, .string ⟨a.other.toArray⟩, .string ⟨a.ratio.n.toArray⟩, .string ⟨a.ratio.d.toArray⟩, .string ⟨a.share.n.toArray⟩, .string ⟨a.share.d.toArray⟩, .string ⟨a.price.n.toArray⟩, .string ⟨a.price.d.toArray⟩, .bool a.keep] 28)).alloc (.cells #[.string ⟨b.cause.toArray⟩, .int .i64 b.day, .string ⟨b.inst.toArray⟩, .string ⟨b.other.toArray⟩, .string ⟨b.ratio.n.toArray⟩, .string ⟨b.ratio.d.toArray⟩, .string ⟨b.share.n.toArray⟩, .string ⟨b.share.d.toArray⟩, .string ⟨b.price.n.toArray⟩, .string ⟨b.price.d.toArray⟩, .bool b.keep] 28)) = W0 at *
      refine (HLA.out _).mono ?_
      rintro e w1 ⟨rfl, hb1⟩
      have HK1 := Lib.hid (HK0.out.here hb1)
      clear a0 a1 a2 a3 a4 a5 a6 a7 a8 a9 a10 hb1
      obtain ⟨b0, b1, b2, b3, b4, b5, b6, b7, b8, b9, b10⟩ := z11 HK1.out (i := 0) rfl
      go_wp2_with fail
      refine (HLB.out _).mono ?_
      rintro e w2 ⟨rfl, hb2⟩
      have HK2 := Lib.hid (HK1.out.here hb2)
      clear b0 b1 b2 b3 b4 b5 b6 b7 b8 b9 b10 hb2
      obtain ⟨a0, a1, a2, a3, a4, a5, a6, a7, a8, a9, a10⟩ := z11 HK2.out (i := 1) rfl
      obtain ⟨b0, b1, b2, b3, b4, b5, b6, b7, b8, b9, b10⟩ := z11 HK2.out (i := 0) rfl
      go_wp2_with fail
      refine (HTH.out _ HK2.out.pw).mono ?_
      rintro e w3 ⟨rfl, hb3⟩
      clear a0 a1 a2 a3 a4 a5 a6 a7 a8 a9 a10 b0 b1 b2 b3 b4 b5 b6 b7 b8 b9 b10 HTH
      have HK3 := Lib.hid ((HK2.out.here hb3).new w3.heap.size rfl #[.string ⟨d.cause.toArray⟩, .int .i64 d.day, .string ⟨d.inst.toArray⟩, .string ⟨d.other.toArray⟩, .string ⟨d.ratio.n.toArray⟩, .string ⟨d.ratio.d.toArray⟩, .string ⟨d.share.n.toArray⟩, .string ⟨d.share.d.toArray⟩, .string ⟨d.price.n.toArray⟩, .string ⟨d.price.d.toArray⟩, .bool d.keep] 28)
      clear hb3
      obtain ⟨a0, a1, a2, a3, a4, a5, a6, a7, a8, a9, a10⟩ := z11 HK3.out (i := 2) rfl
      obtain ⟨b0, b1, b2, b3, b4, b5, b6, b7, b8, b9, b10⟩ := z11 HK3.out (i := 1) rfl
      go_wp2_with fail
      generalize w3.alloc (.cells #[.string ⟨d.cause.toArray⟩, .int .i64 d.day, .string ⟨d.inst.toArray⟩, .string ⟨d.other.toArray⟩, .string ⟨d.ratio.n.toArray⟩, .string ⟨d.ratio.d.toArray⟩, .string ⟨d.share.n.toArray⟩, .string ⟨d.share.d.toArray⟩, .string ⟨d.price.n.toArray⟩, .string ⟨d.price.d.toArray⟩, .bool d.keep] 28) = W3 at *
      refine (HTR.out _ HK3.out.pw).mono ?_
      rintro e w4 ⟨rfl, hb4⟩
      clear a0 a1 a2 a3 a4 a5 a6 a7 a8 a9 a10 b0 b1 b2 b3 b4 b5 b6 b7 b8 b9 b10 HTR
      have HK4 := Lib.hid ((HK3.out.here hb4).new w4.heap.size rfl #[.string ⟨d.cause.toArray⟩, .int .i64 d.day, .string ⟨d.inst.toArray⟩, .string ⟨d.other.toArray⟩, .string ⟨d.ratio.n.toArray⟩, .string ⟨d.ratio.d.toArray⟩, .string ⟨d.share.n.toArray⟩, .string ⟨d.share.d.toArray⟩, .string ⟨d.price.n.toArray⟩, .string ⟨d.price.d.toArray⟩, .bool d.keep] 28)
      clear hb4
      obtain ⟨c0, c1, c2, c3, c4, c5, c6, c7, c8, c9, c10⟩ := z11 HK4.out (i := 1) rfl
      obtain ⟨d0, d1, d2, d3, d4, d5, d6, d7, d8, d9, d10⟩ := z11 HK4.out (i := 0) rfl
      go_wp2_with fail
      refine (HAW.out _ HK4.out.bl).mono ?_
      rintro e wz ⟨rfl, hbz⟩
      go_wp2_with fail
      first | go_ret | skip
      exact ⟨rfl, (HK4.out.here hbz).bl⟩
end Go.Proofs.YtpnncoinlopndaaGreatDoor

