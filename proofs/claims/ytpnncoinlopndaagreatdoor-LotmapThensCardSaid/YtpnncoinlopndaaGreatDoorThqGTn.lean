/- Th. -/
import Derived.Test.YtpnncoinlopndaaGreatDoorPreqGTn
import Derived.Test.YtpnncoinlopndaaGreatDoorQGTn16
namespace Go.Proofs.YtpnncoinlopndaaGreatDoor
open Go.RowKit Go.Shelf
attribute [local go_sem ↓] Go.wp_at_zero Go.wp_at_succ
def ThenPost (r : Mp × Int) (w : World) (e : Ending) (w' : World) : Prop := e = .returned (.tuple #[MpV r.1, .int .i64 r.2]) ∧ Below w.heap.size w w'
theorem z11 {w W : World} {bs : List (Nat × Array Value × TypeId)} {p i : Nat} {c0 c1 c2 c3 c4 c5 c6 c7 c8 c9 c10 : Value} {T : TypeId} (h : Kp w bs W) (hb : bs[i]? = some (p, #[c0, c1, c2, c3, c4, c5, c6, c7, c8, c9, c10], T)) :
    W.cell? ⟨p, 0, none⟩ = some c0 ∧ W.cell? ⟨p, 1, none⟩ = some c1 ∧ W.cell? ⟨p, 2, none⟩ = some c2 ∧ W.cell? ⟨p, 3, none⟩ = some c3 ∧ W.cell? ⟨p, 4, none⟩ = some c4 ∧ W.cell? ⟨p, 5, none⟩ = some c5 ∧ W.cell? ⟨p, 6, none⟩ = some c6 ∧ W.cell? ⟨p, 7, none⟩ = some c7 ∧ W.cell? ⟨p, 8, none⟩ = some c8 ∧ W.cell? ⟨p, 9, none⟩ = some c9 ∧ W.cell? ⟨p, 10, none⟩ = some c10 :=
  ⟨h.c i 0 hb rfl, h.c i 1 hb rfl, h.c i 2 hb rfl, h.c i 3 hb rfl, h.c i 4 hb rfl, h.c i 5 hb rfl, h.c i 6 hb rfl, h.c i 7 hb rfl, h.c i 8 hb rfl, h.c i 9 hb rfl, h.c i 10 hb rfl⟩
theorem kp_step {w W : World} {bs : List (Nat × Array Value × TypeId)} {p i : Nat} {cs : Array Value} {T : TypeId} (hlt : i < bs.length) (j : Nat) (v : Value) (hk : Kp w (bs.set i (p, cs, T)) W) : Kp w (bs.set i (p, cs.setIfInBounds j v, T)) (W.setCell ⟨p, j, none⟩ v) := by
  have := hk.set i j (List.getElem?_set_self hlt) v
  rwa [List.set_set] at this
theorem set_same {α : Type} {l : List α} {i : Nat} {a : α} (h : l[i]? = some a) : l.set i a = l := by
  refine List.ext_getElem? fun k => ?_
  rw [List.getElem?_set]
  split
  · rename_i e
    subst e
    rw [h]
    split
    · rfl
    · rename_i e2; exact absurd (List.getElem?_eq_some_iff.1 h).1 e2
  · rfl
theorem kp_sets11 {w W : World} {bs : List (Nat × Array Value × TypeId)} {p i : Nat} {c0 c1 c2 c3 c4 c5 c6 c7 c8 c9 c10 : Value} {T : TypeId} (h : Kp w bs W) (hb : bs[i]? = some (p, #[c0, c1, c2, c3, c4, c5, c6, c7, c8, c9, c10], T)) (d0 d1 d2 d3 d4 d5 d6 d7 d8 d9 d10 : Value) :
    Kp w (bs.set i (p, #[d0, d1, d2, d3, d4, d5, d6, d7, d8, d9, d10], T)) (((((((((((W.setCell ⟨p, 0, none⟩ d0).setCell ⟨p, 1, none⟩ d1).setCell ⟨p, 2, none⟩ d2).setCell ⟨p, 3, none⟩ d3).setCell ⟨p, 4, none⟩ d4).setCell ⟨p, 5, none⟩ d5).setCell ⟨p, 6, none⟩ d6).setCell ⟨p, 7, none⟩ d7).setCell ⟨p, 8, none⟩ d8).setCell ⟨p, 9, none⟩ d9).setCell ⟨p, 10, none⟩ d10) := by
  have hlt := (List.getElem?_eq_some_iff.1 hb).1
  have h0 : Kp w (bs.set i (p, #[c0, c1, c2, c3, c4, c5, c6, c7, c8, c9, c10], T)) W := by rw [set_same hb]; exact h
  have h1 : Kp w (bs.set i (p, #[d0, c1, c2, c3, c4, c5, c6, c7, c8, c9, c10], T)) (W.setCell ⟨p, 0, none⟩ d0) := kp_step hlt 0 d0 h0
  have h2 : Kp w (bs.set i (p, #[d0, d1, c2, c3, c4, c5, c6, c7, c8, c9, c10], T)) ((W.setCell ⟨p, 0, none⟩ d0).setCell ⟨p, 1, none⟩ d1) := kp_step hlt 1 d1 h1
  have h3 : Kp w (bs.set i (p, #[d0, d1, d2, c3, c4, c5, c6, c7, c8, c9, c10], T)) (((W.setCell ⟨p, 0, none⟩ d0).setCell ⟨p, 1, none⟩ d1).setCell ⟨p, 2, none⟩ d2) := kp_step hlt 2 d2 h2
  have h4 : Kp w (bs.set i (p, #[d0, d1, d2, d3, c4, c5, c6, c7, c8, c9, c10], T)) ((((W.setCell ⟨p, 0, none⟩ d0).setCell ⟨p, 1, none⟩ d1).setCell ⟨p, 2, none⟩ d2).setCell ⟨p, 3, none⟩ d3) := kp_step hlt 3 d3 h3
  have h5 : Kp w (bs.set i (p, #[d0, d1, d2, d3, d4, c5, c6, c7, c8, c9, c10], T)) (((((W.setCell ⟨p, 0, none⟩ d0).setCell ⟨p, 1, none⟩ d1).setCell ⟨p, 2, none⟩ d2).setCell ⟨p, 3, none⟩ d3).setCell ⟨p, 4, none⟩ d4) := kp_step hlt 4 d4 h4
  have h6 : Kp w (bs.set i (p, #[d0, d1, d2, d3, d4, d5, c6, c7, c8, c9, c10], T)) ((((((W.setCell ⟨p, 0, none⟩ d0).setCell ⟨p, 1, none⟩ d1).setCell ⟨p, 2, none⟩ d2).setCell ⟨p, 3, none⟩ d3).setCell ⟨p, 4, none⟩ d4).setCell ⟨p, 5, none⟩ d5) := kp_step hlt 5 d5 h5
  have h7 : Kp w (bs.set i (p, #[d0, d1, d2, d3, d4, d5, d6, c7, c8, c9, c10], T)) (((((((W.setCell ⟨p, 0, none⟩ d0).setCell ⟨p, 1, none⟩ d1).setCell ⟨p, 2, none⟩ d2).setCell ⟨p, 3, none⟩ d3).setCell ⟨p, 4, none⟩ d4).setCell ⟨p, 5, none⟩ d5).setCell ⟨p, 6, none⟩ d6) := kp_step hlt 6 d6 h6
  have h8 : Kp w (bs.set i (p, #[d0, d1, d2, d3, d4, d5, d6, d7, c8, c9, c10], T)) ((((((((W.setCell ⟨p, 0, none⟩ d0).setCell ⟨p, 1, none⟩ d1).setCell ⟨p, 2, none⟩ d2).setCell ⟨p, 3, none⟩ d3).setCell ⟨p, 4, none⟩ d4).setCell ⟨p, 5, none⟩ d5).setCell ⟨p, 6, none⟩ d6).setCell ⟨p, 7, none⟩ d7) := kp_step hlt 7 d7 h7
  have h9 : Kp w (bs.set i (p, #[d0, d1, d2, d3, d4, d5, d6, d7, d8, c9, c10], T)) (((((((((W.setCell ⟨p, 0, none⟩ d0).setCell ⟨p, 1, none⟩ d1).setCell ⟨p, 2, none⟩ d2).setCell ⟨p, 3, none⟩ d3).setCell ⟨p, 4, none⟩ d4).setCell ⟨p, 5, none⟩ d5).setCell ⟨p, 6, none⟩ d6).setCell ⟨p, 7, none⟩ d7).setCell ⟨p, 8, none⟩ d8) := kp_step hlt 8 d8 h8
  have h10 : Kp w (bs.set i (p, #[d0, d1, d2, d3, d4, d5, d6, d7, d8, d9, c10], T)) ((((((((((W.setCell ⟨p, 0, none⟩ d0).setCell ⟨p, 1, none⟩ d1).setCell ⟨p, 2, none⟩ d2).setCell ⟨p, 3, none⟩ d3).setCell ⟨p, 4, none⟩ d4).setCell ⟨p, 5, none⟩ d5).setCell ⟨p, 6, none⟩ d6).setCell ⟨p, 7, none⟩ d7).setCell ⟨p, 8, none⟩ d8).setCell ⟨p, 9, none⟩ d9) := kp_step hlt 9 d9 h9
  have h11 : Kp w (bs.set i (p, #[d0, d1, d2, d3, d4, d5, d6, d7, d8, d9, d10], T)) (((((((((((W.setCell ⟨p, 0, none⟩ d0).setCell ⟨p, 1, none⟩ d1).setCell ⟨p, 2, none⟩ d2).setCell ⟨p, 3, none⟩ d3).setCell ⟨p, 4, none⟩ d4).setCell ⟨p, 5, none⟩ d5).setCell ⟨p, 6, none⟩ d6).setCell ⟨p, 7, none⟩ d7).setCell ⟨p, 8, none⟩ d8).setCell ⟨p, 9, none⟩ d9).setCell ⟨p, 10, none⟩ d10) := kp_step hlt 10 d10 h10
  exact h11
set_option maxRecDepth 100000 in
set_option maxHeartbeats 4000000 in
theorem then_any (a b : Mp) (w : World) (hp : Env w) (ha : a.Sz 5000 ∨ a.Bad) (hb : b.Sz 5000 ∨ b.Bad) (hra : a.ratio.Sz 20000) (hrb : b.ratio.Sz 20000) :
    Calls Tryz.prog 14 #[MpV a, MpV b] w (ThenPost (thenL a b) w) := by
  have HPO := Lib.hid (show ThenPost (thenL a b) w = fun e w' => e = .returned (.tuple #[MpV (thenL a b).1, .int .i64 (thenL a b).2]) ∧ Below w.heap.size w w' from rfl)
  generalize ThenPost (thenL a b) w = post at *
  have HTH := Lib.hid (show thenL a b = if mpC a ≠ 0 ∨ mpC b ≠ 0 then (Mp.none, 1) else if a.other ≠ b.inst ∨ a.keep = true ∨ b.keep = true then (Mp.none, 9) else ({ b with inst := a.inst, ratio := frOf (a.ratio.rat * b.ratio.rat) }, 0) from rfl)
  generalize thenL a b = th at *
  have HK0 := Lib.hid (show Kp w [(w.heap.size + 1 + 1, #[.string ⟨#[]⟩, .int .i64 0, .string ⟨#[]⟩, .string ⟨#[]⟩, .string ⟨#[]⟩, .string ⟨#[]⟩, .string ⟨#[]⟩, .string ⟨#[]⟩, .string ⟨#[]⟩, .string ⟨#[]⟩, .bool false], 28), (w.heap.size + 1, #[.string ⟨b.cause.toArray⟩, .int .i64 b.day, .string ⟨b.inst.toArray⟩, .string ⟨b.other.toArray⟩, .string ⟨b.ratio.n.toArray⟩, .string ⟨b.ratio.d.toArray⟩, .string ⟨b.share.n.toArray⟩, .string ⟨b.share.d.toArray⟩, .string ⟨b.price.n.toArray⟩, .string ⟨b.price.d.toArray⟩, .bool b.keep], 28), (w.heap.size, #[.string ⟨a.cause.toArray⟩, .int .i64 a.day, .string ⟨a.inst.toArray⟩, .string ⟨a.other.toArray⟩, .string ⟨a.ratio.n.toArray⟩, .string ⟨a.ratio.d.toArray⟩, .string ⟨a.share.n.toArray⟩, .string ⟨a.share.d.toArray⟩, .string ⟨a.price.n.toArray⟩, .string ⟨a.price.d.toArray⟩, .bool a.keep], 28)] (((w.alloc (.cells #[.string ⟨a.cause.toArray⟩, .int .i64 a.day, .string ⟨a.inst.toArray⟩, .string ⟨a.other.toArray⟩, .string ⟨a.ratio.n.toArray⟩, .string ⟨a.ratio.d.toArray⟩, .string ⟨a.share.n.toArray⟩, .string ⟨a.share.d.toArray⟩, .string ⟨a.price.n.toArray⟩, .string ⟨a.price.d.toArray⟩, .bool a.keep] 28)).alloc (.cells #[.string ⟨b.cause.toArray⟩, .int .i64 b.day, .string ⟨b.inst.toArray⟩, .string ⟨b.other.toArray⟩, .string ⟨b.ratio.n.toArray⟩, .string ⟨b.ratio.d.toArray⟩, .string ⟨b.share.n.toArray⟩, .string ⟨b.share.d.toArray⟩, .string ⟨b.price.n.toArray⟩, .string ⟨b.price.d.toArray⟩, .bool b.keep] 28)).alloc (.cells #[.string ⟨#[]⟩, .int .i64 0, .string ⟨#[]⟩, .string ⟨#[]⟩, .string ⟨#[]⟩, .string ⟨#[]⟩, .string ⟨#[]⟩, .string ⟨#[]⟩, .string ⟨#[]⟩, .string ⟨#[]⟩, .bool false] 28)) from (((Kp.start hp).new w.heap.size rfl _ _).new (w.heap.size + 1) (by simp) _ _).new (w.heap.size + 1 + 1) (by simp) _ _)
  have HCA := Lib.hid (mCheck_all a ha); have HCB := Lib.hid (mCheck_all b hb)
  have HMU := Lib.hid (fun W hW => fMul_any a.ratio b.ratio W hW hra hrb)
  have HP := Lib.hid hp
  clear hp ha hb hra hrb
  unfold MpV at HCA HCB ⊢
  rw [mpA_eq] at HCA HCB
  rw [mpA_eq, mpA_eq]
  unfold FrV S at HMU
  generalize frOf (a.ratio.rat * b.ratio.rat) = fm at *
  generalize mpC a = ca at *
  generalize mpC b = cb at *
  obtain ⟨a0, a1, a2, a3, a4, a5, a6, a7, a8, a9, a10⟩ := z11 HK0.out (i := 2) rfl
  by_cases h1 : ca = 0
  · subst h1
    by_cases h2 : cb = 0
    · subst h2
      rw [if_neg (by simp)] at HTH
      go_enter Tryz.func14, Tryz.ntmps14
      go_wp2_with fail
      generalize (((w.alloc (.cells #[.string ⟨a.cause.toArray⟩, .int .i64 a.day, .string ⟨a.inst.toArray⟩, .string ⟨a.other.toArray⟩, .string ⟨a.ratio.n.toArray⟩, .string ⟨a.ratio.d.toArray⟩, .string ⟨a.share.n.toArray⟩, .string ⟨a.share.d.toArray⟩, .string ⟨a.price.n.toArray⟩, .string ⟨a.price.d.toArray⟩, .bool a.keep] 28)).alloc (.cells #[.string ⟨b.cause.toArray⟩, .int .i64 b.day, .string ⟨b.inst.toArray⟩, .string ⟨b.other.toArray⟩, .string ⟨b.ratio.n.toArray⟩, .string ⟨b.ratio.d.toArray⟩, .string ⟨b.share.n.toArray⟩, .string ⟨b.share.d.toArray⟩, .string ⟨b.price.n.toArray⟩, .string ⟨b.price.d.toArray⟩, .bool b.keep] 28)).alloc (.cells #[.string ⟨#[]⟩, .int .i64 0, .string ⟨#[]⟩, .string ⟨#[]⟩, .string ⟨#[]⟩, .string ⟨#[]⟩, .string ⟨#[]⟩, .string ⟨#[]⟩, .string ⟨#[]⟩, .string ⟨#[]⟩, .bool false] 28)) = W0 at *
      refine (HCA.out _ HK0.out.pw).mono ?_
      rintro e w1 ⟨rfl, hb1⟩
      have HK1 := Lib.hid (HK0.out.here hb1)
      clear hb1 a0 a1 a2 a3 a4 a5 a6 a7 a8 a9 a10 HK0
      obtain ⟨b0, b1, b2, b3, b4, b5, b6, b7, b8, b9, b10⟩ := z11 HK1.out (i := 1) rfl
      go_wp2_with fail
      refine (HCB.out _ HK1.out.pw).mono ?_
      rintro e w2 ⟨rfl, hb2⟩
      have HK2 := Lib.hid (HK1.out.here hb2)
      clear hb2 b0 b1 b2 b3 b4 b5 b6 b7 b8 b9 b10 HK1
      obtain ⟨a0, a1, a2, a3, a4, a5, a6, a7, a8, a9, a10⟩ := z11 HK2.out (i := 2) rfl
      obtain ⟨b0, b1, b2, b3, b4, b5, b6, b7, b8, b9, b10⟩ := z11 HK2.out (i := 1) rfl
      by_cases g1 : a.other = b.inst
      · cases g2 : a.keep with
        | true =>
          rw [if_pos (.inr (.inl g2))] at HTH
          have q1 : (a.other == b.inst) = true := by simp [g1]
          have q2 : (a.other != b.inst) = false := by simp [g1]
          rw [g2] at a10
          clear g1
          have n0 := HK2.out.c 0 0 rfl rfl; have n1 := HK2.out.c 0 1 rfl rfl; have n2 := HK2.out.c 0 2 rfl rfl; have n3 := HK2.out.c 0 3 rfl rfl; have n4 := HK2.out.c 0 4 rfl rfl; have n5 := HK2.out.c 0 5 rfl rfl; have n6 := HK2.out.c 0 6 rfl rfl; have n7 := HK2.out.c 0 7 rfl rfl; have n8 := HK2.out.c 0 8 rfl rfl; have n9 := HK2.out.c 0 9 rfl rfl; have n10 := HK2.out.c 0 10 rfl rfl
          have f0 := HK2.out.f 0 0 rfl; have f1 := HK2.out.f 0 1 rfl; have f2 := HK2.out.f 0 2 rfl; have f3 := HK2.out.f 0 3 rfl; have f4 := HK2.out.f 0 4 rfl; have f5 := HK2.out.f 0 5 rfl; have f6 := HK2.out.f 0 6 rfl; have f7 := HK2.out.f 0 7 rfl; have f8 := HK2.out.f 0 8 rfl; have f9 := HK2.out.f 0 9 rfl; have f10 := HK2.out.f 0 10 rfl
          have HE := Lib.hid (kp_sets11 HK2.out (i := 0) rfl (.string ⟨#[]⟩) (.int .i64 0) (.string ⟨#[]⟩) (.string ⟨#[]⟩) (.string ⟨#[]⟩) (.string ⟨#[]⟩) (.string ⟨#[]⟩) (.string ⟨#[]⟩) (.string ⟨#[]⟩) (.string ⟨#[]⟩) (.bool false))
          go_wp2_with fail
          obtain ⟨m0, m1, m2, m3, m4, m5, m6, m7, m8, m9, m10⟩ := z11 HE.out (i := 0) rfl
          refine bodyPost_ret (v := .tuple #[.agg #[.string ⟨#[]⟩, .int .i64 0, .string ⟨#[]⟩, .string ⟨#[]⟩, .string ⟨#[]⟩, .string ⟨#[]⟩, .string ⟨#[]⟩, .string ⟨#[]⟩, .string ⟨#[]⟩, .string ⟨#[]⟩, .bool false], .int .i64 9]) (by simp [results, Tryz.results14, go_sem, m0, m1, m2, m3, m4, m5, m6, m7, m8, m9, m10]) rfl ?_
          rw [HPO.out, HTH.out]
          exact ⟨rfl, HE.out.bl⟩
        | false =>
          cases g3 : b.keep with
          | true =>
            rw [if_pos (.inr (.inr g3))] at HTH
            have q1 : (a.other == b.inst) = true := by simp [g1]
            have q2 : (a.other != b.inst) = false := by simp [g1]
            rw [g2] at a10
            rw [g3] at b10
            clear g1
            have n0 := HK2.out.c 0 0 rfl rfl; have n1 := HK2.out.c 0 1 rfl rfl; have n2 := HK2.out.c 0 2 rfl rfl; have n3 := HK2.out.c 0 3 rfl rfl; have n4 := HK2.out.c 0 4 rfl rfl; have n5 := HK2.out.c 0 5 rfl rfl; have n6 := HK2.out.c 0 6 rfl rfl; have n7 := HK2.out.c 0 7 rfl rfl; have n8 := HK2.out.c 0 8 rfl rfl; have n9 := HK2.out.c 0 9 rfl rfl; have n10 := HK2.out.c 0 10 rfl rfl
            have f0 := HK2.out.f 0 0 rfl; have f1 := HK2.out.f 0 1 rfl; have f2 := HK2.out.f 0 2 rfl; have f3 := HK2.out.f 0 3 rfl; have f4 := HK2.out.f 0 4 rfl; have f5 := HK2.out.f 0 5 rfl; have f6 := HK2.out.f 0 6 rfl; have f7 := HK2.out.f 0 7 rfl; have f8 := HK2.out.f 0 8 rfl; have f9 := HK2.out.f 0 9 rfl; have f10 := HK2.out.f 0 10 rfl
            have HE := Lib.hid (kp_sets11 HK2.out (i := 0) rfl (.string ⟨#[]⟩) (.int .i64 0) (.string ⟨#[]⟩) (.string ⟨#[]⟩) (.string ⟨#[]⟩) (.string ⟨#[]⟩) (.string ⟨#[]⟩) (.string ⟨#[]⟩) (.string ⟨#[]⟩) (.string ⟨#[]⟩) (.bool false))
            go_wp2_with fail
            obtain ⟨m0, m1, m2, m3, m4, m5, m6, m7, m8, m9, m10⟩ := z11 HE.out (i := 0) rfl
            refine bodyPost_ret (v := .tuple #[.agg #[.string ⟨#[]⟩, .int .i64 0, .string ⟨#[]⟩, .string ⟨#[]⟩, .string ⟨#[]⟩, .string ⟨#[]⟩, .string ⟨#[]⟩, .string ⟨#[]⟩, .string ⟨#[]⟩, .string ⟨#[]⟩, .bool false], .int .i64 9]) (by simp [results, Tryz.results14, go_sem, m0, m1, m2, m3, m4, m5, m6, m7, m8, m9, m10]) rfl ?_
            rw [HPO.out, HTH.out]
            exact ⟨rfl, HE.out.bl⟩
          | false =>
            rw [if_neg (by rw [g2, g3]; simp [g1])] at HTH
            have q1 : (a.other == b.inst) = true := by simp [g1]
            have q2 : (a.other != b.inst) = false := by simp [g1]
            rw [g2] at a10
            rw [g3] at b10
            clear g1
            have HK3 := Lib.hid (HK2.out.new w2.heap.size rfl #[.string ⟨b.cause.toArray⟩, .int .i64 b.day, .string ⟨a.inst.toArray⟩, .string ⟨b.other.toArray⟩, .string ⟨b.ratio.n.toArray⟩, .string ⟨b.ratio.d.toArray⟩, .string ⟨b.share.n.toArray⟩, .string ⟨b.share.d.toArray⟩, .string ⟨b.price.n.toArray⟩, .string ⟨b.price.d.toArray⟩, .bool false] 28)
            have n2 : w.heap.size < w2.heap.size := HK2.out.lt 2 rfl
            have n3 : w.heap.size + 1 < w2.heap.size := HK2.out.lt 1 rfl
            go_wp2_with fail
            refine (HMU.out _ HK3.out.po).mono ?_
            rintro e w5 ⟨rfl, hb5⟩
            unfold FrV S
            have HK5 := Lib.hid (HK3.out.here hb5)
            clear hb5 a0 a1 a2 a3 a4 a5 a6 a7 a8 a9 a10 b0 b1 b2 b3 b4 b5 b6 b7 b8 b9 b10
            obtain ⟨c0, c1, c2, c3, c4, c5, c6, c7, c8, c9, c10⟩ := z11 HK5.out (i := 0) rfl
            obtain ⟨m0, m1, m2, m3, m4, m5, m6, m7, m8, m9, m10⟩ := z11 HK5.out (i := 1) rfl
            have f0 := HK5.out.f 1 0 rfl; have f1 := HK5.out.f 1 1 rfl; have f2 := HK5.out.f 1 2 rfl; have f3 := HK5.out.f 1 3 rfl; have f4 := HK5.out.f 1 4 rfl; have f5 := HK5.out.f 1 5 rfl; have f6 := HK5.out.f 1 6 rfl; have f7 := HK5.out.f 1 7 rfl; have f8 := HK5.out.f 1 8 rfl; have f9 := HK5.out.f 1 9 rfl; have f10 := HK5.out.f 1 10 rfl
            have h4 := HK5.out.f 0 4 rfl; have h5 := HK5.out.f 0 5 rfl
            have hne : w.heap.size + 1 + 1 ≠ w2.heap.size := by have := HK2.out.lt 0 rfl; omega
            have HE0 := Lib.hid ((HK5.out.set 0 4 rfl (.string ⟨fm.n.toArray⟩)).set 0 5 rfl (.string ⟨fm.d.toArray⟩))
            have HE := Lib.hid (kp_sets11 HE0.out (i := 1) rfl (.string ⟨b.cause.toArray⟩) (.int .i64 b.day) (.string ⟨a.inst.toArray⟩) (.string ⟨b.other.toArray⟩) (.string ⟨fm.n.toArray⟩) (.string ⟨fm.d.toArray⟩) (.string ⟨b.share.n.toArray⟩) (.string ⟨b.share.d.toArray⟩) (.string ⟨b.price.n.toArray⟩) (.string ⟨b.price.d.toArray⟩) (.bool false))
            go_wp2_with fail
            obtain ⟨r0, r1, r2, r3, r4, r5, r6, r7, r8, r9, r10⟩ := z11 HE.out (i := 1) rfl
            refine bodyPost_ret (v := .tuple #[.agg #[.string ⟨b.cause.toArray⟩, .int .i64 b.day, .string ⟨a.inst.toArray⟩, .string ⟨b.other.toArray⟩, .string ⟨fm.n.toArray⟩, .string ⟨fm.d.toArray⟩, .string ⟨b.share.n.toArray⟩, .string ⟨b.share.d.toArray⟩, .string ⟨b.price.n.toArray⟩, .string ⟨b.price.d.toArray⟩, .bool false], .int .i64 0]) (by simp [results, Tryz.results14, go_sem, r0, r1, r2, r3, r4, r5, r6, r7, r8, r9, r10]) rfl ?_
            rw [HPO.out, HTH.out]
            refine ⟨?_, HE.out.bl⟩
            unfold MpV
            rw [mpA_eq, g3]
      · rw [if_pos (.inl g1)] at HTH
        have q1 : (a.other == b.inst) = false := by simpa using g1
        have q2 : (a.other != b.inst) = true := by simpa using g1
        clear g1
        have n0 := HK2.out.c 0 0 rfl rfl; have n1 := HK2.out.c 0 1 rfl rfl; have n2 := HK2.out.c 0 2 rfl rfl; have n3 := HK2.out.c 0 3 rfl rfl; have n4 := HK2.out.c 0 4 rfl rfl; have n5 := HK2.out.c 0 5 rfl rfl; have n6 := HK2.out.c 0 6 rfl rfl; have n7 := HK2.out.c 0 7 rfl rfl; have n8 := HK2.out.c 0 8 rfl rfl; have n9 := HK2.out.c 0 9 rfl rfl; have n10 := HK2.out.c 0 10 rfl rfl
        have f0 := HK2.out.f 0 0 rfl; have f1 := HK2.out.f 0 1 rfl; have f2 := HK2.out.f 0 2 rfl; have f3 := HK2.out.f 0 3 rfl; have f4 := HK2.out.f 0 4 rfl; have f5 := HK2.out.f 0 5 rfl; have f6 := HK2.out.f 0 6 rfl; have f7 := HK2.out.f 0 7 rfl; have f8 := HK2.out.f 0 8 rfl; have f9 := HK2.out.f 0 9 rfl; have f10 := HK2.out.f 0 10 rfl
        have HE := Lib.hid (kp_sets11 HK2.out (i := 0) rfl (.string ⟨#[]⟩) (.int .i64 0) (.string ⟨#[]⟩) (.string ⟨#[]⟩) (.string ⟨#[]⟩) (.string ⟨#[]⟩) (.string ⟨#[]⟩) (.string ⟨#[]⟩) (.string ⟨#[]⟩) (.string ⟨#[]⟩) (.bool false))
        go_wp2_with fail
        obtain ⟨m0, m1, m2, m3, m4, m5, m6, m7, m8, m9, m10⟩ := z11 HE.out (i := 0) rfl
        refine bodyPost_ret (v := .tuple #[.agg #[.string ⟨#[]⟩, .int .i64 0, .string ⟨#[]⟩, .string ⟨#[]⟩, .string ⟨#[]⟩, .string ⟨#[]⟩, .string ⟨#[]⟩, .string ⟨#[]⟩, .string ⟨#[]⟩, .string ⟨#[]⟩, .bool false], .int .i64 9]) (by simp [results, Tryz.results14, go_sem, m0, m1, m2, m3, m4, m5, m6, m7, m8, m9, m10]) rfl ?_
        rw [HPO.out, HTH.out]
        exact ⟨rfl, HE.out.bl⟩
    · rw [if_pos (.inr h2)] at HTH
      have h2' : (cb != 0) = true := by simpa using h2
      clear h2
      go_enter Tryz.func14, Tryz.ntmps14
      go_wp2_with fail
      generalize (((w.alloc (.cells #[.string ⟨a.cause.toArray⟩, .int .i64 a.day, .string ⟨a.inst.toArray⟩, .string ⟨a.other.toArray⟩, .string ⟨a.ratio.n.toArray⟩, .string ⟨a.ratio.d.toArray⟩, .string ⟨a.share.n.toArray⟩, .string ⟨a.share.d.toArray⟩, .string ⟨a.price.n.toArray⟩, .string ⟨a.price.d.toArray⟩, .bool a.keep] 28)).alloc (.cells #[.string ⟨b.cause.toArray⟩, .int .i64 b.day, .string ⟨b.inst.toArray⟩, .string ⟨b.other.toArray⟩, .string ⟨b.ratio.n.toArray⟩, .string ⟨b.ratio.d.toArray⟩, .string ⟨b.share.n.toArray⟩, .string ⟨b.share.d.toArray⟩, .string ⟨b.price.n.toArray⟩, .string ⟨b.price.d.toArray⟩, .bool b.keep] 28)).alloc (.cells #[.string ⟨#[]⟩, .int .i64 0, .string ⟨#[]⟩, .string ⟨#[]⟩, .string ⟨#[]⟩, .string ⟨#[]⟩, .string ⟨#[]⟩, .string ⟨#[]⟩, .string ⟨#[]⟩, .string ⟨#[]⟩, .bool false] 28)) = W0 at *
      refine (HCA.out _ HK0.out.pw).mono ?_
      rintro e w1 ⟨rfl, hb1⟩
      have HK1 := Lib.hid (HK0.out.here hb1)
      clear hb1 a0 a1 a2 a3 a4 a5 a6 a7 a8 a9 a10 HK0
      obtain ⟨b0, b1, b2, b3, b4, b5, b6, b7, b8, b9, b10⟩ := z11 HK1.out (i := 1) rfl
      go_wp2_with fail
      refine (HCB.out _ HK1.out.pw).mono ?_
      rintro e w2 ⟨rfl, hb2⟩
      have HK2 := Lib.hid (HK1.out.here hb2)
      clear hb2 b0 b1 b2 b3 b4 b5 b6 b7 b8 b9 b10 HK1
      have n0 := HK2.out.c 0 0 rfl rfl; have n1 := HK2.out.c 0 1 rfl rfl; have n2 := HK2.out.c 0 2 rfl rfl; have n3 := HK2.out.c 0 3 rfl rfl; have n4 := HK2.out.c 0 4 rfl rfl; have n5 := HK2.out.c 0 5 rfl rfl; have n6 := HK2.out.c 0 6 rfl rfl; have n7 := HK2.out.c 0 7 rfl rfl; have n8 := HK2.out.c 0 8 rfl rfl; have n9 := HK2.out.c 0 9 rfl rfl; have n10 := HK2.out.c 0 10 rfl rfl
      have f0 := HK2.out.f 0 0 rfl; have f1 := HK2.out.f 0 1 rfl; have f2 := HK2.out.f 0 2 rfl; have f3 := HK2.out.f 0 3 rfl; have f4 := HK2.out.f 0 4 rfl; have f5 := HK2.out.f 0 5 rfl; have f6 := HK2.out.f 0 6 rfl; have f7 := HK2.out.f 0 7 rfl; have f8 := HK2.out.f 0 8 rfl; have f9 := HK2.out.f 0 9 rfl; have f10 := HK2.out.f 0 10 rfl
      have HE := Lib.hid (kp_sets11 HK2.out (i := 0) rfl (.string ⟨#[]⟩) (.int .i64 0) (.string ⟨#[]⟩) (.string ⟨#[]⟩) (.string ⟨#[]⟩) (.string ⟨#[]⟩) (.string ⟨#[]⟩) (.string ⟨#[]⟩) (.string ⟨#[]⟩) (.string ⟨#[]⟩) (.bool false))
      go_wp2_with fail
      obtain ⟨m0, m1, m2, m3, m4, m5, m6, m7, m8, m9, m10⟩ := z11 HE.out (i := 0) rfl
      refine bodyPost_ret (v := .tuple #[.agg #[.string ⟨#[]⟩, .int .i64 0, .string ⟨#[]⟩, .string ⟨#[]⟩, .string ⟨#[]⟩, .string ⟨#[]⟩, .string ⟨#[]⟩, .string ⟨#[]⟩, .string ⟨#[]⟩, .string ⟨#[]⟩, .bool false], .int .i64 1]) (by simp [results, Tryz.results14, go_sem, m0, m1, m2, m3, m4, m5, m6, m7, m8, m9, m10]) rfl ?_
      rw [HPO.out, HTH.out]
      exact ⟨rfl, HE.out.bl⟩
  · rw [if_pos (.inl h1)] at HTH
    have h1' : (ca != 0) = true := by simpa using h1
    clear h1
    go_enter Tryz.func14, Tryz.ntmps14
    go_wp2_with fail
    generalize (((w.alloc (.cells #[.string ⟨a.cause.toArray⟩, .int .i64 a.day, .string ⟨a.inst.toArray⟩, .string ⟨a.other.toArray⟩, .string ⟨a.ratio.n.toArray⟩, .string ⟨a.ratio.d.toArray⟩, .string ⟨a.share.n.toArray⟩, .string ⟨a.share.d.toArray⟩, .string ⟨a.price.n.toArray⟩, .string ⟨a.price.d.toArray⟩, .bool a.keep] 28)).alloc (.cells #[.string ⟨b.cause.toArray⟩, .int .i64 b.day, .string ⟨b.inst.toArray⟩, .string ⟨b.other.toArray⟩, .string ⟨b.ratio.n.toArray⟩, .string ⟨b.ratio.d.toArray⟩, .string ⟨b.share.n.toArray⟩, .string ⟨b.share.d.toArray⟩, .string ⟨b.price.n.toArray⟩, .string ⟨b.price.d.toArray⟩, .bool b.keep] 28)).alloc (.cells #[.string ⟨#[]⟩, .int .i64 0, .string ⟨#[]⟩, .string ⟨#[]⟩, .string ⟨#[]⟩, .string ⟨#[]⟩, .string ⟨#[]⟩, .string ⟨#[]⟩, .string ⟨#[]⟩, .string ⟨#[]⟩, .bool false] 28)) = W0 at *
    refine (HCA.out _ HK0.out.pw).mono ?_
    rintro e w1 ⟨rfl, hb1⟩
    have HK1 := Lib.hid (HK0.out.here hb1)
    clear hb1 a0 a1 a2 a3 a4 a5 a6 a7 a8 a9 a10
    have n0 := HK1.out.c 0 0 rfl rfl; have n1 := HK1.out.c 0 1 rfl rfl; have n2 := HK1.out.c 0 2 rfl rfl; have n3 := HK1.out.c 0 3 rfl rfl; have n4 := HK1.out.c 0 4 rfl rfl; have n5 := HK1.out.c 0 5 rfl rfl; have n6 := HK1.out.c 0 6 rfl rfl; have n7 := HK1.out.c 0 7 rfl rfl; have n8 := HK1.out.c 0 8 rfl rfl; have n9 := HK1.out.c 0 9 rfl rfl; have n10 := HK1.out.c 0 10 rfl rfl
    have f0 := HK1.out.f 0 0 rfl; have f1 := HK1.out.f 0 1 rfl; have f2 := HK1.out.f 0 2 rfl; have f3 := HK1.out.f 0 3 rfl; have f4 := HK1.out.f 0 4 rfl; have f5 := HK1.out.f 0 5 rfl; have f6 := HK1.out.f 0 6 rfl; have f7 := HK1.out.f 0 7 rfl; have f8 := HK1.out.f 0 8 rfl; have f9 := HK1.out.f 0 9 rfl; have f10 := HK1.out.f 0 10 rfl
    have HE := Lib.hid (kp_sets11 HK1.out (i := 0) rfl (.string ⟨#[]⟩) (.int .i64 0) (.string ⟨#[]⟩) (.string ⟨#[]⟩) (.string ⟨#[]⟩) (.string ⟨#[]⟩) (.string ⟨#[]⟩) (.string ⟨#[]⟩) (.string ⟨#[]⟩) (.string ⟨#[]⟩) (.bool false))
    go_wp2_with fail
    obtain ⟨m0, m1, m2, m3, m4, m5, m6, m7, m8, m9, m10⟩ := z11 HE.out (i := 0) rfl
    refine bodyPost_ret (v := .tuple #[.agg #[.string ⟨#[]⟩, .int .i64 0, .string ⟨#[]⟩, .string ⟨#[]⟩, .string ⟨#[]⟩, .string ⟨#[]⟩, .string ⟨#[]⟩, .string ⟨#[]⟩, .string ⟨#[]⟩, .string ⟨#[]⟩, .bool false], .int .i64 1]) (by simp [results, Tryz.results14, go_sem, m0, m1, m2, m3, m4, m5, m6, m7, m8, m9, m10]) rfl ?_
    rw [HPO.out, HTH.out]
    exact ⟨rfl, HE.out.bl⟩
end Go.Proofs.YtpnncoinlopndaaGreatDoor

