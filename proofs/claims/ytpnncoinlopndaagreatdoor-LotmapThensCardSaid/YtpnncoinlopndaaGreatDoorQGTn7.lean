/- Merged texts: Fp4, Fp5, Dv, Fp6, D0, N1b, D1. -/
import Derived.Test.YtpnncoinlopndaaGreatDoorQGTn6
import Derived.Laws.EntriesVeiled
import Derived.Test.YtpnncoinlopndaaGreatDoorQGTn3
import Derived.Test.YtpnncoinlopndaaGreatDoorQGTn1
namespace Go.Proofs.YtpnncoinlopndaaGreatDoor
open Go.RowKit Go.Shelf
set_option maxRecDepth 20000 in
set_option maxHeartbeats 1000000 in
theorem apply_any (g : Nat) (F : Int → Int → Int → Int → Int × Int) (hop : FOp g F) (p : Nat) (f h : Fr) (w : World) (hp0 : p < w.heap.size) (hc : w.cell? ⟨p, 0, none⟩ = some (.func (.func 148) #[] #[])) (hp : Pow w) (hf : f.Sz 20000) (hh : h.Sz 20000)
    (h0 : (F (val f.n) f.dv (val h.n) h.dv).2 ≠ 0) (hl1 : (txtL (F (val f.n) f.dv (val h.n) h.dv).1).length ≤ 50000) (hl2 : (txtL (F (val f.n) f.dv (val h.n) h.dv).2).length ≤ 50000) :
    Calls Tryz.prog 108 #[.func (.func g) #[] #[.pointer (some ⟨p, 0, none⟩)], FrV f, FrV h] w (FracPost (frOf (Rat.divInt (F (val f.n) f.dv (val h.n) h.dv).1 (F (val f.n) f.dv (val h.n) h.dv).2)) w) := by
  have HOP := Lib.hid (fun W hlt hc hp => hop.calls f.n f.dt h.n h.dt p W hlt hc hp hf.1 (Fr.dt_len hf.2 (by omega)) hh.1 (Fr.dt_len hh.2 (by omega)))
  simp only [Fr.val_dt] at HOP
  have eg := hop.enters
  have HPO := Lib.hid (show FracPost (frOf (Rat.divInt (F (val f.n) f.dv (val h.n) h.dv).1 (F (val f.n) f.dv (val h.n) h.dv).2)) w = fun e w' => e = .returned (FrV (frOf (Rat.divInt (F (val f.n) f.dv (val h.n) h.dv).1 (F (val f.n) f.dv (val h.n) h.dv).2))) ∧ Below w.heap.size w w' from rfl)
  generalize FracPost (frOf (Rat.divInt (F (val f.n) f.dv (val h.n) h.dv).1 (F (val f.n) f.dv (val h.n) h.dv).2)) w = post at *
  generalize (F (val f.n) f.dv (val h.n) h.dv).1 = x at *
  generalize (F (val f.n) f.dv (val h.n) h.dv).2 = y at *
  have hB1 : FrB (((w.alloc (.cells #[.string ⟨f.n.toArray⟩, .string ⟨f.d.toArray⟩] 26)).alloc (.cells #[.string ⟨h.n.toArray⟩, .string ⟨h.d.toArray⟩] 26)).alloc (.cells #[.string ⟨#[]⟩, .string ⟨#[]⟩] 26)) w.heap.size f := ((FrB.new w f).alloc _).alloc _
  have hB2 : FrB (((w.alloc (.cells #[.string ⟨f.n.toArray⟩, .string ⟨f.d.toArray⟩] 26)).alloc (.cells #[.string ⟨h.n.toArray⟩, .string ⟨h.d.toArray⟩] 26)).alloc (.cells #[.string ⟨#[]⟩, .string ⟨#[]⟩] 26)) (w.heap.size + 1) h := by
    have := (FrB.new (w.alloc (.cells #[.string ⟨f.n.toArray⟩, .string ⟨f.d.toArray⟩] 26)) h).alloc (.cells #[.string ⟨#[]⟩, .string ⟨#[]⟩] 26)
    simpa using this
  have hB3 : FrB (((w.alloc (.cells #[.string ⟨f.n.toArray⟩, .string ⟨f.d.toArray⟩] 26)).alloc (.cells #[.string ⟨h.n.toArray⟩, .string ⟨h.d.toArray⟩] 26)).alloc (.cells #[.string ⟨#[]⟩, .string ⟨#[]⟩] 26)) (w.heap.size + 1 + 1) Fr.zero := by
    have := FrB.new ((w.alloc (.cells #[.string ⟨f.n.toArray⟩, .string ⟨f.d.toArray⟩] 26)).alloc (.cells #[.string ⟨h.n.toArray⟩, .string ⟨h.d.toArray⟩] 26)) Fr.zero
    simp only [World.size_alloc] at this
    exact this
  have hbA : Below w.heap.size w (((w.alloc (.cells #[.string ⟨f.n.toArray⟩, .string ⟨f.d.toArray⟩] 26)).alloc (.cells #[.string ⟨h.n.toArray⟩, .string ⟨h.d.toArray⟩] 26)).alloc (.cells #[.string ⟨#[]⟩, .string ⟨#[]⟩] 26)) := (((Below.refl _ _).alloc (Nat.le_refl _) _).alloc (by simp) _).alloc (by simp; omega) _
  have HB1 := Lib.hid hB1; have HB2 := Lib.hid hB2; have HB3 := Lib.hid hB3; have HBA := Lib.hid hbA
  have HP1 := Lib.hid (fun W => parts_any f W (by have := hf.2; omega))
  have HP2 := Lib.hid (fun W => parts_any h W (by have := hh.2; omega))
  have HMD := Lib.hid (fun W hp => made_any (txtL x) (txtL y) W hp hl1 hl2 (by rw [val_txtL]; exact h0))
  rw [val_txtL, val_txtL] at HMD
  have HC := Lib.hid hc; have HP := Lib.hid hp
  obtain ⟨x0, x1⟩ := hB1.cells
  clear hB1 hB2 hB3 hbA hc hp hf hh hl1 hl2 h0 hop
  unfold FrV at *
  unfold S at *
  go_enter Tryz.func108, Tryz.ntmps108
  go_wp2_with fail
  generalize (((w.alloc (.cells #[.string ⟨f.n.toArray⟩, .string ⟨f.d.toArray⟩] 26)).alloc (.cells #[.string ⟨h.n.toArray⟩, .string ⟨h.d.toArray⟩] 26)).alloc (.cells #[.string ⟨#[]⟩, .string ⟨#[]⟩] 26)) = W at *
  refine (HP1.out W).mono ?_
  rintro e w1 ⟨rfl, hb1⟩
  unfold S
  have hb01 := HBA.out.trans (hb1.mono HBA.out.size)
  clear x0 x1
  obtain ⟨y0, y1⟩ := (HB2.out.here hb1).cells
  go_wp2_with fail
  refine (HP2.out w1).mono ?_
  rintro e w2 ⟨rfl, hb2⟩
  unfold S
  have hb02 := hb01.trans (hb2.mono hb01.size)
  have hbW2 := hb1.trans (hb2.mono hb1.size)
  have HO2 := Lib.hid (HOP.out w2 (Nat.lt_of_lt_of_le hp0 hb02.size) ((hb02.cell (p := ⟨p, 0, none⟩) hp0).trans HC.out) (HP.out.here hb02))
  clear y0 y1
  go_wp2_with fail
  refine HO2.out.mono ?_
  rintro e w3 ⟨rfl, hb3⟩
  unfold S
  have hb03 := hb02.trans (hb3.mono hb02.size)
  have hbW3 := hbW2.trans (hb3.mono hbW2.size)
  have HM3 := Lib.hid (HMD.out w3 (HP.out.here hb03))
  go_wp2_with fail
  refine HM3.out.mono ?_
  rintro e w4 ⟨rfl, hb4⟩
  have hbW4 := hbW3.trans (hb4.mono hbW3.size)
  have hb04 := hb03.trans (hb4.mono hb03.size)
  have HB4 := Lib.hid (HB3.out.here hbW4)
  obtain ⟨z0, z1⟩ := HB4.out.cells
  have f0 := HB4.out.frozen 0; have f1 := HB4.out.frozen 1
  generalize frOf (Rat.divInt x y) = res at *
  unfold FrV S
  go_wp2_with fail
  refine bodyPost_ret (v := .agg #[.string ⟨res.n.toArray⟩, .string ⟨res.d.toArray⟩]) (by simp [results, Tryz.results108, go_sem, z0, z1]) rfl ?_
  rw [HPO.out]
  exact ⟨rfl, (hb04.setCell (p := ⟨w.heap.size + 1 + 1, 0, none⟩) (by simp only; omega) _).setCell (p := ⟨w.heap.size + 1 + 1, 1, none⟩) (by simp only; omega) _⟩
def OpsPost (w : World) (e : Ending) (w' : World) : Prop :=
  ∃ p, e = .returned (.agg #[.func (.func 149) #[] #[.pointer (some ⟨p, 0, none⟩)], .func (.func 150) #[] #[.pointer (some ⟨p, 0, none⟩)], .func (.func 151) #[] #[.pointer (some ⟨p, 0, none⟩)], .func (.func 152) #[] #[.pointer (some ⟨p, 0, none⟩)]]) ∧
    p < w'.heap.size ∧ w'.cell? ⟨p, 0, none⟩ = some (.func (.func 148) #[] #[]) ∧ Below w.heap.size w w'
theorem ops_any (w : World) : Calls Tryz.prog 109 #[] w (OpsPost w) := by
  have HPO := Lib.hid (show OpsPost w = fun e w' => ∃ p, e = .returned (.agg #[.func (.func 149) #[] #[.pointer (some ⟨p, 0, none⟩)], .func (.func 150) #[] #[.pointer (some ⟨p, 0, none⟩)], .func (.func 151) #[] #[.pointer (some ⟨p, 0, none⟩)], .func (.func 152) #[] #[.pointer (some ⟨p, 0, none⟩)]]) ∧
    p < w'.heap.size ∧ w'.cell? ⟨p, 0, none⟩ = some (.func (.func 148) #[] #[]) ∧ Below w.heap.size w w' from rfl)
  generalize OpsPost w = post at *
  go_enter Tryz.func109, Tryz.ntmps109
  go_wp2_with fail
  refine bodyPost_ret (v := .agg #[.func (.func 149) #[] #[.pointer (some ⟨w.heap.size + 1, 0, none⟩)], .func (.func 150) #[] #[.pointer (some ⟨w.heap.size + 1, 0, none⟩)], .func (.func 151) #[] #[.pointer (some ⟨w.heap.size + 1, 0, none⟩)], .func (.func 152) #[] #[.pointer (some ⟨w.heap.size + 1, 0, none⟩)]]) (by simp [results, Tryz.results109, go_sem]) rfl ?_
  rw [HPO.out]
  refine ⟨w.heap.size + 1, rfl, by simp, ?_, ((Below.refl _ _).alloc (Nat.le_refl _) _).alloc (by simp) _⟩
  have := World.cell?_alloc_new (w.alloc (.cells #[.func (.func 149) #[] #[.pointer (some ⟨w.heap.size + 1, 0, none⟩)], .func (.func 150) #[] #[.pointer (some ⟨w.heap.size + 1, 0, none⟩)], .func (.func 151) #[] #[.pointer (some ⟨w.heap.size + 1, 0, none⟩)], .func (.func 152) #[] #[.pointer (some ⟨w.heap.size + 1, 0, none⟩)]] 139))
  simp only [World.size_alloc] at this
  simp [this]
end Go.Proofs.YtpnncoinlopndaaGreatDoor

namespace Go.Proofs.YtpnncoinlopndaaGreatDoor
open Go.RowKit Go.Shelf
structure Fr3 (w : World) (p : Nat) (f h : Fr) (W : World) : Prop where
  a : FrB W p f
  b : FrB W (p + 1) h
  c : FrB W (p + 1 + 1) Fr.zero
  bl : Below w.heap.size w W
  hp : w.heap.size ≤ p
theorem Fr3.here {w : World} {p : Nat} {f h : Fr} {W W' : World} (H : Fr3 w p f h W) (hb : Below W.heap.size W W') : Fr3 w p f h W' := ⟨H.a.here hb, H.b.here hb, H.c.here hb, H.bl.trans (hb.mono H.bl.size), H.hp⟩
theorem Fr3.held {w : World} {p : Nat} {f h : Fr} {W : World} (H : Fr3 w p f h W) : W.cell? ⟨p, 0, none⟩ = some (.string ⟨f.n.toArray⟩) ∧ W.cell? ⟨p, 1, none⟩ = some (.string ⟨f.d.toArray⟩) ∧ W.cell? ⟨p + 1, 0, none⟩ = some (.string ⟨h.n.toArray⟩) ∧ W.cell? ⟨p + 1, 1, none⟩ = some (.string ⟨h.d.toArray⟩) :=
  ⟨H.a.cells.1, H.a.cells.2, H.b.cells.1, H.b.cells.2⟩
theorem Fr3.heldS {w : World} {p : Nat} {f h : Fr} {W : World} (H : Fr3 w p f h W) (u v : Value) : ((W.setCell ⟨p + 1 + 1, 0, none⟩ u).setCell ⟨p + 1 + 1, 1, none⟩ v).cell? ⟨p, 0, none⟩ = some (.string ⟨f.n.toArray⟩) ∧ ((W.setCell ⟨p + 1 + 1, 0, none⟩ u).setCell ⟨p + 1 + 1, 1, none⟩ v).cell? ⟨p, 1, none⟩ = some (.string ⟨f.d.toArray⟩) ∧ ((W.setCell ⟨p + 1 + 1, 0, none⟩ u).setCell ⟨p + 1 + 1, 1, none⟩ v).cell? ⟨p + 1, 0, none⟩ = some (.string ⟨h.n.toArray⟩) ∧ ((W.setCell ⟨p + 1 + 1, 0, none⟩ u).setCell ⟨p + 1 + 1, 1, none⟩ v).cell? ⟨p + 1, 1, none⟩ = some (.string ⟨h.d.toArray⟩) :=
  have h1 := ((H.a.far (a := ⟨p + 1 + 1, 0, none⟩) (by simp only; omega) u).far (a := ⟨p + 1 + 1, 1, none⟩) (by simp only; omega) v).cells
  have h2 := ((H.b.far (a := ⟨p + 1 + 1, 0, none⟩) (by simp only; omega) u).far (a := ⟨p + 1 + 1, 1, none⟩) (by simp only; omega) v).cells
  ⟨h1.1, h1.2, h2.1, h2.2⟩
theorem Fr3.new (w : World) (f h : Fr) : Fr3 w w.heap.size f h (((w.alloc (.cells #[.string ⟨f.n.toArray⟩, .string ⟨f.d.toArray⟩] 26)).alloc (.cells #[.string ⟨h.n.toArray⟩, .string ⟨h.d.toArray⟩] 26)).alloc (.cells #[.string ⟨#[]⟩, .string ⟨#[]⟩] 26)) := by
  refine ⟨((FrB.new w f).alloc _).alloc _, ?_, ?_, (((Below.refl _ _).alloc (Nat.le_refl _) _).alloc (by simp) _).alloc (by simp; omega) _, Nat.le_refl _⟩
  · have := (FrB.new (w.alloc (.cells #[.string ⟨f.n.toArray⟩, .string ⟨f.d.toArray⟩] 26)) h).alloc (.cells #[.string ⟨#[]⟩, .string ⟨#[]⟩] 26)
    simp only [World.size_alloc] at this
    exact this
  · have := FrB.new ((w.alloc (.cells #[.string ⟨f.n.toArray⟩, .string ⟨f.d.toArray⟩] 26)).alloc (.cells #[.string ⟨h.n.toArray⟩, .string ⟨h.d.toArray⟩] 26)) Fr.zero
    simp only [World.size_alloc] at this
    exact this
theorem idx_ops1 (p : Nat) (W : World) : (Instr.index 139 (.agg #[.func (.func 149) #[] #[.pointer (some ⟨p, 0, none⟩)], .func (.func 150) #[] #[.pointer (some ⟨p, 0, none⟩)], .func (.func 151) #[] #[.pointer (some ⟨p, 0, none⟩)], .func (.func 152) #[] #[.pointer (some ⟨p, 0, none⟩)]]) (.int .i64 1)).run Tryz.prog W = .ok (.func (.func 150) #[] #[.pointer (some ⟨p, 0, none⟩)]) W := by kernel_rfl
theorem idx_ops2 (p : Nat) (W : World) : (Instr.index 139 (.agg #[.func (.func 149) #[] #[.pointer (some ⟨p, 0, none⟩)], .func (.func 150) #[] #[.pointer (some ⟨p, 0, none⟩)], .func (.func 151) #[] #[.pointer (some ⟨p, 0, none⟩)], .func (.func 152) #[] #[.pointer (some ⟨p, 0, none⟩)]]) (.int .i64 2)).run Tryz.prog W = .ok (.func (.func 151) #[] #[.pointer (some ⟨p, 0, none⟩)]) W := by kernel_rfl
theorem rb_len {n : Int} {L M : Nat} (h : n.natAbs < 10 ^ L) (hL : L + 1 ≤ M) : (txtL n).length ≤ M := Nat.le_trans (txtL_length h) hL
set_option maxRecDepth 20000 in
set_option maxHeartbeats 1000000 in
theorem fSub_any (f h : Fr) (w : World) (hp : Pow w) (hf : f.Sz 20000) (hh : h.Sz 20000) : Calls Tryz.prog 102 #[FrV f, FrV h] w (FracPost (frOf (f.rat - h.rat)) w) := by
  have HAP := Lib.hid (fun p W hlt hc hpw => by
    obtain ⟨K, hKe⟩ : ∃ K : Nat, K = 20000 := ⟨_, rfl⟩
    rw [← hKe] at hf hh
    have hK : 1 ≤ K := by omega
    exact apply_any 150 _ fop2 p f h W hlt hc hpw (by rw [← hKe]; exact hf) (by rw [← hKe]; exact hh) (Int.mul_ne_zero f.dv_ne h.dv_ne) (rb_len (sub_lt_pow (mul_lt_pow (val_lt' hf.1) (Fr.dv_lt hh.2 hK)) (mul_lt_pow (val_lt' hh.1) (Fr.dv_lt hf.2 hK))) (by omega)) (rb_len (mul_lt_pow (Fr.dv_lt hf.2 hK) (Fr.dv_lt hh.2 hK)) (by omega)))
  simp only [← rat_sub] at HAP
  have HPO := Lib.hid (show FracPost (frOf (f.rat - h.rat)) w = fun e w' => e = .returned (FrV (frOf (f.rat - h.rat))) ∧ Below w.heap.size w w' from rfl)
  generalize FracPost (frOf (f.rat - h.rat)) w = post at *
  generalize frOf (f.rat - h.rat) = res at *
  have H3 := Lib.hid (Fr3.new w f h)
  have HP := Lib.hid hp
  obtain ⟨x0, x1, y0, y1⟩ := H3.out.held
  clear hp hf hh
  unfold FrV at *
  unfold S at *
  go_enter Tryz.func102, Tryz.ntmps102
  go_upto_region 1 with (fail)
  generalize (((w.alloc (.cells #[.string ⟨f.n.toArray⟩, .string ⟨f.d.toArray⟩] 26)).alloc (.cells #[.string ⟨h.n.toArray⟩, .string ⟨h.d.toArray⟩] 26)).alloc (.cells #[.string ⟨#[]⟩, .string ⟨#[]⟩] 26)) = W at *
  go_region_held3 (fun w' => w'.cell? ⟨w.heap.size, 0, none⟩ = some (.string ⟨f.n.toArray⟩) ∧ w'.cell? ⟨w.heap.size, 1, none⟩ = some (.string ⟨f.d.toArray⟩) ∧ w'.cell? ⟨w.heap.size + 1, 0, none⟩ = some (.string ⟨h.n.toArray⟩) ∧ w'.cell? ⟨w.heap.size + 1, 1, none⟩ = some (.string ⟨h.d.toArray⟩))
    (first
      | exact (H3.out.here hz2).heldS _ _
      | exact (H3.out.here hz2).held
      | exact (H3.out.here hz).held
      | go_keep)
    (first
      | (go_at_call 109; refine (ops_any _).mono ?_; rintro e w1 ⟨p, rfl, hlt, hc, hb1⟩; have hz : Below W.heap.size W w1 := (Below.refl _ W).drew.trans hb1; have hix := idx_ops1 p w1)
      | (go_at_call 108; refine (HAP.out p _ hlt hc (HP.out.here (H3.out.here hz).bl)).mono ?_; rintro e w2 ⟨rfl, hb2⟩; unfold FrV S; have hz2 := hz.trans (hb2.mono hz.size); have z0 := (H3.out.here hz2).c.cells.1; have z1 := (H3.out.here hz2).c.cells.2; have f0 := (H3.out.here hz2).c.frozen 0; have f1 := (H3.out.here hz2).c.frozen 1))
  all_goals
    go_wp2_with fail
    refine bodyPost_ret (v := .agg #[.string ⟨res.n.toArray⟩, .string ⟨res.d.toArray⟩]) (by simp [results, Tryz.results102, go_sem, z0, z1]) rfl ?_
    rw [HPO.out]
    exact ⟨rfl, ((H3.out.here hz2).bl.setCell (p := ⟨w.heap.size + 1 + 1, 0, none⟩) (by simp only; omega) _).setCell (p := ⟨w.heap.size + 1 + 1, 1, none⟩) (by simp only; omega) _⟩
set_option maxRecDepth 20000 in
set_option maxHeartbeats 1000000 in
theorem fMul_any (f h : Fr) (w : World) (hp : Pow w) (hf : f.Sz 20000) (hh : h.Sz 20000) : Calls Tryz.prog 55 #[FrV f, FrV h] w (FracPost (frOf (f.rat * h.rat)) w) := by
  have HAP := Lib.hid (fun p W hlt hc hpw => by
    obtain ⟨K, hKe⟩ : ∃ K : Nat, K = 20000 := ⟨_, rfl⟩
    rw [← hKe] at hf hh
    have hK : 1 ≤ K := by omega
    exact apply_any 151 _ fop3 p f h W hlt hc hpw (by rw [← hKe]; exact hf) (by rw [← hKe]; exact hh) (Int.mul_ne_zero f.dv_ne h.dv_ne) (rb_len (mul_lt_pow (val_lt' hf.1) (val_lt' hh.1)) (by omega)) (rb_len (mul_lt_pow (Fr.dv_lt hf.2 hK) (Fr.dv_lt hh.2 hK)) (by omega)))
  simp only [← rat_mul] at HAP
  have HPO := Lib.hid (show FracPost (frOf (f.rat * h.rat)) w = fun e w' => e = .returned (FrV (frOf (f.rat * h.rat))) ∧ Below w.heap.size w w' from rfl)
  generalize FracPost (frOf (f.rat * h.rat)) w = post at *
  generalize frOf (f.rat * h.rat) = res at *
  have H3 := Lib.hid (Fr3.new w f h)
  have HP := Lib.hid hp
  obtain ⟨x0, x1, y0, y1⟩ := H3.out.held
  clear hp hf hh
  unfold FrV at *
  unfold S at *
  go_enter Tryz.func55, Tryz.ntmps55
  go_upto_region 1 with (fail)
  generalize (((w.alloc (.cells #[.string ⟨f.n.toArray⟩, .string ⟨f.d.toArray⟩] 26)).alloc (.cells #[.string ⟨h.n.toArray⟩, .string ⟨h.d.toArray⟩] 26)).alloc (.cells #[.string ⟨#[]⟩, .string ⟨#[]⟩] 26)) = W at *
  go_region_held3 (fun w' => w'.cell? ⟨w.heap.size, 0, none⟩ = some (.string ⟨f.n.toArray⟩) ∧ w'.cell? ⟨w.heap.size, 1, none⟩ = some (.string ⟨f.d.toArray⟩) ∧ w'.cell? ⟨w.heap.size + 1, 0, none⟩ = some (.string ⟨h.n.toArray⟩) ∧ w'.cell? ⟨w.heap.size + 1, 1, none⟩ = some (.string ⟨h.d.toArray⟩))
    (first
      | exact (H3.out.here hz2).heldS _ _
      | exact (H3.out.here hz2).held
      | exact (H3.out.here hz).held
      | go_keep)
    (first
      | (go_at_call 109; refine (ops_any _).mono ?_; rintro e w1 ⟨p, rfl, hlt, hc, hb1⟩; have hz : Below W.heap.size W w1 := (Below.refl _ W).drew.trans hb1; have hix := idx_ops2 p w1)
      | (go_at_call 108; refine (HAP.out p _ hlt hc (HP.out.here (H3.out.here hz).bl)).mono ?_; rintro e w2 ⟨rfl, hb2⟩; unfold FrV S; have hz2 := hz.trans (hb2.mono hz.size); have z0 := (H3.out.here hz2).c.cells.1; have z1 := (H3.out.here hz2).c.cells.2; have f0 := (H3.out.here hz2).c.frozen 0; have f1 := (H3.out.here hz2).c.frozen 1))
  all_goals
    go_wp2_with fail
    refine bodyPost_ret (v := .agg #[.string ⟨res.n.toArray⟩, .string ⟨res.d.toArray⟩]) (by simp [results, Tryz.results55, go_sem, z0, z1]) rfl ?_
    rw [HPO.out]
    exact ⟨rfl, ((H3.out.here hz2).bl.setCell (p := ⟨w.heap.size + 1 + 1, 0, none⟩) (by simp only; omega) _).setCell (p := ⟨w.heap.size + 1 + 1, 1, none⟩) (by simp only; omega) _⟩
end Go.Proofs.YtpnncoinlopndaaGreatDoor

namespace Go.Proofs.YtpnncoinlopndaaGreatDoor
open Go.RowKit
theorem divInt_one (n : Int) : Rat.divInt n 1 = (n : Rat) := by
  have := Rat.num_divInt_den (n : Rat)
  simpa using this
end Go.Proofs.YtpnncoinlopndaaGreatDoor

namespace Go.Proofs.YtpnncoinlopndaaGreatDoor
open Go.RowKit Go.Shelf
theorem sgn_zero (n : Int) : (sgnI n == 0) = decide (n = 0) := by
  unfold sgnI
  rw [Bool.eq_iff_iff]
  simp
  (repeat' split) <;> omega
theorem sub_sz {f h : Fr} {L : Nat} (hf : f.Sz L) (hh : h.Sz L) (hL : 1 ≤ L) : (frOf (f.rat - h.rat)).Sz (L + L + 1 + 1) := frOf_sz (rb_sub hf hh hL)
set_option maxRecDepth 20000 in
set_option maxHeartbeats 1000000 in
theorem fCompare_any (f h : Fr) (w : World) (hp : Pow w) (hf : f.Sz 20000) (hh : h.Sz 20000) : Calls Tryz.prog 45 #[FrV f, FrV h] w (CmpIPost (cmpR f.rat h.rat) w) := by
  have HSU := Lib.hid (fun W hp => fSub_any f h W hp hf hh)
  have hsz : (frOf (f.rat - h.rat)).Sz 40002 := by
    obtain ⟨K, hKe⟩ : ∃ K : Nat, K = 20000 := ⟨_, rfl⟩
    rw [← hKe] at hf hh
    have := sub_sz hf hh (by omega)
    rw [hKe] at this
    exact this
  have HCR := Lib.hid (show cmpR f.rat h.rat = sgnI (val (frOf (f.rat - h.rat)).n - val []) by
    rw [cmpR_sub, val_nil, Int.sub_zero]; unfold frOf; simp only [val_txtL])
  have HPO := Lib.hid (show CmpIPost (cmpR f.rat h.rat) w = fun e w' => e = .returned (.int .i64 (cmpR f.rat h.rat)) ∧ Below w.heap.size w w' from rfl)
  generalize CmpIPost (cmpR f.rat h.rat) w = post at *
  rw [HCR.out] at HPO
  generalize frOf (f.rat - h.rat) = r at *
  have HPA := Lib.hid (fun W => parts_any r W (by have := hsz.2; omega))
  have HCM := Lib.hid (fun W => Compare_any r.n [] W (by have := hsz.1; omega) (by simp))
  have HP := Lib.hid hp
  have hB1 : FrB ((w.alloc (.cells #[.string ⟨f.n.toArray⟩, .string ⟨f.d.toArray⟩] 26)).alloc (.cells #[.string ⟨h.n.toArray⟩, .string ⟨h.d.toArray⟩] 26)) w.heap.size f := (FrB.new w f).alloc _
  have hB2 : FrB ((w.alloc (.cells #[.string ⟨f.n.toArray⟩, .string ⟨f.d.toArray⟩] 26)).alloc (.cells #[.string ⟨h.n.toArray⟩, .string ⟨h.d.toArray⟩] 26)) (w.heap.size + 1) h := by
    have := FrB.new (w.alloc (.cells #[.string ⟨f.n.toArray⟩, .string ⟨f.d.toArray⟩] 26)) h
    simp only [World.size_alloc] at this
    exact this
  have hbA : Below w.heap.size w ((w.alloc (.cells #[.string ⟨f.n.toArray⟩, .string ⟨f.d.toArray⟩] 26)).alloc (.cells #[.string ⟨h.n.toArray⟩, .string ⟨h.d.toArray⟩] 26)) := ((Below.refl _ _).alloc (Nat.le_refl _) _).alloc (by simp) _
  obtain ⟨x0, x1⟩ := hB1.cells
  obtain ⟨y0, y1⟩ := hB2.cells
  have HBA := Lib.hid hbA
  clear hp hf hh hsz HCR hB1 hB2 hbA
  unfold FrV at *
  unfold S at *
  go_enter Tryz.func45, Tryz.ntmps45
  go_wp2_with fail
  generalize (w.alloc (.cells #[.string ⟨f.n.toArray⟩, .string ⟨f.d.toArray⟩] 26)).alloc (.cells #[.string ⟨h.n.toArray⟩, .string ⟨h.d.toArray⟩] 26) = W at *
  refine (HSU.out W (HP.out.here HBA.out)).mono ?_
  rintro e w1 ⟨rfl, hb1⟩
  unfold FrV S
  have hb01 := HBA.out.trans (hb1.mono HBA.out.size)
  go_wp2_with fail
  refine (HPA.out w1).mono ?_
  rintro e w2 ⟨rfl, hb2⟩
  unfold S
  have hb02 := hb01.trans (hb2.mono hb01.size)
  go_wp2_with fail
  refine (HCM.out w2).mono ?_
  rintro e w3 ⟨rfl, hb3⟩
  have hb03 := hb02.trans (hb3.mono hb02.size)
  go_wp2_with fail
  rw [HPO.out]
  exact ⟨rfl, hb03⟩
set_option maxRecDepth 20000 in
theorem fOf_any (a : List UInt8) (w : World) (hp : Pow w) (ha : a.length ≤ 50000) : Calls Tryz.prog 60 #[S a] w (FracPost (frOf (val a)) w) := by
  have hbA : Below w.heap.size w (w.alloc (.cells #[.string ⟨#[]⟩, .string ⟨#[]⟩] 26)) := (Below.refl _ _).alloc (Nat.le_refl _) _
  have HMD := Lib.hid (made_any a [49] (w.alloc (.cells #[.string ⟨#[]⟩, .string ⟨#[]⟩] 26)) (hp.here hbA) ha (by simp) (by rw [one_val]; omega))
  rw [one_val, divInt_one] at HMD
  have HPO := Lib.hid (show FracPost (frOf (val a)) w = fun e w' => e = .returned (FrV (frOf (val a))) ∧ Below w.heap.size w w' from rfl)
  generalize FracPost (frOf (val a)) w = post at *
  generalize frOf (val a) = res at *
  have HB := Lib.hid (show FrB (w.alloc (.cells #[.string ⟨#[]⟩, .string ⟨#[]⟩] 26)) w.heap.size Fr.zero from FrB.new w Fr.zero)
  have HBA := Lib.hid hbA
  clear hp ha hbA
  unfold FrV at *
  unfold S at *
  go_enter Tryz.func60, Tryz.ntmps60
  go_wp2_with fail
  generalize w.alloc (.cells #[.string ⟨#[]⟩, .string ⟨#[]⟩] 26) = W at *
  refine HMD.out.mono ?_
  rintro e w1 ⟨rfl, hb1⟩
  unfold FrV S
  have HB1 := Lib.hid (HB.out.here hb1)
  obtain ⟨c0, c1⟩ := HB1.out.cells
  have f0 := HB1.out.frozen 0; have f1 := HB1.out.frozen 1
  have hb01 := HBA.out.trans (hb1.mono HBA.out.size)
  go_wp2_with fail
  refine bodyPost_ret (v := .agg #[.string ⟨res.n.toArray⟩, .string ⟨res.d.toArray⟩]) (by simp [results, Tryz.results60, go_sem, c0, c1]) rfl ?_
  rw [HPO.out]
  exact ⟨rfl, (hb01.setCell (p := ⟨w.heap.size, 0, none⟩) (Nat.le_refl _) _).setCell (p := ⟨w.heap.size, 1, none⟩) (Nat.le_refl _) _⟩
def chkF (f : Fr) : Int := if f.ok then 0 else 1
set_option maxRecDepth 20000 in
set_option maxHeartbeats 1000000 in
theorem fCheck_any (f : Fr) (w : World) (hp : Pow w) (hf : f.Sz 20000) : Calls Tryz.prog 43 #[FrV f] w (CmpIPost (chkF f) w) := by
  have hbA : Below w.heap.size w (w.alloc (.cells #[.string ⟨f.n.toArray⟩, .string ⟨f.d.toArray⟩] 26)) := (Below.refl _ _).alloc (Nat.le_refl _) _
  have HPA := Lib.hid (fun W => parts_any f W (by have := hf.2; omega))
  have HMD := Lib.hid (fun W hp => made_any f.n f.dt W hp (by have := hf.1; omega) (by have := Fr.dt_len hf.2 (by omega); omega) (by rw [Fr.val_dt]; exact f.dv_ne))
  rw [Fr.val_dt, show Rat.divInt (val f.n) f.dv = f.rat from rfl] at HMD
  have HPO := Lib.hid (show CmpIPost (chkF f) w = fun e w' => e = .returned (.int .i64 (chkF f)) ∧ Below w.heap.size w w' from rfl)
  have HCK := Lib.hid (show chkF f = if f = frOf f.rat then 0 else 1 from rfl)
  generalize CmpIPost (chkF f) w = post at *
  generalize frOf f.rat = g at *
  have HB := Lib.hid (FrB.new w f)
  have HBA := Lib.hid hbA
  have HP := Lib.hid hp
  obtain ⟨x0, x1⟩ := HB.out.cells
  clear hp hf hbA
  have HEQ := Lib.hid (show chkF f = if (f.n == g.n) && (f.d == g.d) then 0 else 1 by
    rw [HCK.out]
    by_cases h : f = g
    · subst h; simp
    · rw [if_neg h, if_neg]
      intro h2
      simp at h2
      exact h (Fr.ext_ h2.1 h2.2))
  clear HCK
  unfold FrV at *
  unfold S at *
  cases hn : (f.n == g.n) <;> cases hd : (f.d == g.d)
  all_goals
    rw [hn, hd] at HEQ
    simp only [Bool.and_true, Bool.and_false, Bool.true_and, Bool.false_and, Bool.false_eq_true, if_true, if_false] at HEQ
    go_enter Tryz.func43, Tryz.ntmps43
    go_upto_region 1 with (fail)
    generalize w.alloc (.cells #[.string ⟨f.n.toArray⟩, .string ⟨f.d.toArray⟩] 26) = W at *
    go_region_held3 (fun w' => w'.cell? ⟨w.heap.size, 0, none⟩ = some (.string ⟨f.n.toArray⟩) ∧ w'.cell? ⟨w.heap.size, 1, none⟩ = some (.string ⟨f.d.toArray⟩))
      (first
        | exact (HB.out.here hz2).cells
        | exact (HB.out.here hz).cells
        | go_keep)
      (first
        | (go_at_call 101; refine (HPA.out _).mono ?_; rintro e w1 ⟨rfl, hb1⟩; unfold S; have hz : Below W.heap.size W w1 := (Below.refl _ W).drew.trans hb1)
        | (go_at_call 100; refine (HMD.out _ (HP.out.here (HBA.out.trans (hz.mono HBA.out.size)))).mono ?_; rintro e w2 ⟨rfl, hb2⟩; unfold FrV S; have hz2 := hz.trans (hb2.mono hz.size)))
    all_goals
      go_wp2_with fail
      rw [HPO.out, HEQ.out]
      exact ⟨rfl, HBA.out.trans (hz2.mono HBA.out.size)⟩
end Go.Proofs.YtpnncoinlopndaaGreatDoor

namespace Go.Proofs.YtpnncoinlopndaaGreatDoor
open Go.RowKit Go.Shelf
def flo (q : Rat) : Int := q.num.fdiv q.den
def flr (q : Rat) : Int := q.num.fmod q.den
theorem fdiv_mul_right {n d e : Int} (he : 0 < e) : (n * e).fdiv (d * e) = n.fdiv d := by
  rw [Int.mul_comm n, Int.mul_comm d, Int.mul_fdiv_mul_of_pos _ _ he]
theorem fdiv_flo (n d : Int) (hd : d ≠ 0) : n.fdiv d = flo (Rat.divInt n d) := by
  have h1 := Rat.num_divInt_den (Rat.divInt n d)
  rw [Rat.divInt_eq_divInt_iff (by have := (Rat.divInt n d).den_nz; omega) hd] at h1
  unfold flo
  have he : (0 : Int) < (Rat.divInt n d).den := by have := (Rat.divInt n d).den_pos; omega
  generalize (Rat.divInt n d).num = p at *
  generalize ((Rat.divInt n d).den : Int) = e at *
  rw [← fdiv_mul_right (n := n) (d := d) he, ← h1]
  rcases Int.lt_or_gt_of_ne hd with h | h
  · have h2 := fdiv_mul_right (n := p) (d := e) (e := -d) (by omega)
    rw [← h2, Int.mul_neg, Int.mul_neg, Int.neg_fdiv_neg, Int.mul_comm e d]
  · rw [Int.mul_comm d e, fdiv_mul_right h]
theorem flo_flr (q : Rat) : q.den * flo q + flr q = q.num := by
  unfold flo flr
  exact Int.mul_fdiv_add_fmod _ _
theorem flr_bounds (q : Rat) : 0 ≤ flr q ∧ flr q < q.den := by
  unfold flr
  have h : (0 : Int) < q.den := by have := q.den_pos; omega
  exact ⟨Int.fmod_nonneg_of_pos _ h, Int.fmod_lt_of_pos _ h⟩
def rnd (q : Rat) : Int := if (q.den : Int) < 2 * flr q ∨ (2 * flr q = q.den ∧ (flo q).fmod 2 ≠ 0) then flo q + 1 else flo q
theorem flo_le (q : Rat) : (flo q).natAbs ≤ q.num.natAbs + 1 := by
  have h1 := flo_flr q
  obtain ⟨h2, h3⟩ := flr_bounds q
  have h4 : (1 : Int) ≤ q.den := by have := q.den_pos; omega
  generalize flo q = f at *
  generalize flr q = r at *
  generalize (q.den : Int) = d at *
  generalize q.num = n at *
  rcases Int.le_total 0 f with h | h
  · have : 1 * f ≤ d * f := Int.mul_le_mul_of_nonneg_right h4 h
    omega
  · have : d * f ≤ 1 * f := Int.mul_le_mul_of_nonpos_right h4 h
    have : f < 0 → d * (f + 1) ≤ 1 * (f + 1) := fun h5 => Int.mul_le_mul_of_nonpos_right h4 (by omega)
    rw [Int.mul_add] at this
    omega
end Go.Proofs.YtpnncoinlopndaaGreatDoor

namespace Go.Proofs.YtpnncoinlopndaaGreatDoor
open Go.RowKit Go.Shelf
set_option maxHeartbeats 400000 in
theorem canonical_any (a : List UInt8) (w : World) (ha : a.length ≤ 1000000000) :
    Calls Tryz.prog 110 #[S a] w fun e w' => e = .returned (S (canonL a)) ∧ Below w.heap.size w w' := by
  have H := Lib.hid (digits_any a w ha)
  have HC := Lib.hid (show canonL a = if (digL a).2 then 45 :: (digL a).1 else (digL a).1 from rfl)
  have hl := digL_len a
  have hl2 : (digL a).1.length ≤ 1000000000 := by omega
  clear hl
  generalize (digL a).1 = t at *
  generalize (digL a).2 = neg at *
  unfold S at *
  cases neg with
  | true =>
    have hsz : (⟨t.toArray⟩ : ByteArray).size ≤ 1000000000 := by rw [str_size]; exact hl2
    go_enter Tryz.func110, Tryz.ntmps110
    go_wp2_with (go_at_call 153; refine H.out.mono ?_; rintro e w1 ⟨rfl, hb1⟩)
    go_ret
    rw [HC.out]
    exact ⟨congrArg (fun b => Ending.returned (.string b)) (ByteArray.mk_append_mk [45] t), hb1⟩
  | false =>
    go_enter Tryz.func110, Tryz.ntmps110
    go_wp2_with (go_at_call 153; refine H.out.mono ?_; rintro e w1 ⟨rfl, hb1⟩)
    go_ret
    rw [HC.out]
    exact ⟨by simp, hb1⟩
end Go.Proofs.YtpnncoinlopndaaGreatDoor

namespace Go.Proofs.YtpnncoinlopndaaGreatDoor
open Go.RowKit Go.Shelf
set_option maxRecDepth 20000 in
theorem partz_any (f : Fr) (hf : f.Sz 40000) : Gives 126 #[FrV f] (.tuple #[S (txtL f.rat.num), S (txtL f.rat.den)]) := by
  intro w hp
  have H := Lib.hid ((Kp.start hp).new w.heap.size rfl #[.string ⟨f.n.toArray⟩, .string ⟨f.d.toArray⟩] 26)
  have HPA := Lib.hid (fun W => parts_any f W (by have := hf.2; omega))
  have HRD := Lib.hid (fun W hp => reduced_any f.n f.dt W hp (by have := hf.1; omega) (by have := Fr.dt_len hf.2 (by omega); omega) (by rw [Fr.val_dt]; exact f.dv_ne))
  rw [Fr.val_dt, show Rat.divInt (val f.n) f.dv = f.rat from rfl] at HRD
  generalize txtL f.rat.num = qn at *
  generalize txtL (f.rat.den : Int) = qd at *
  have x0 : (w.alloc (.cells #[.string ⟨f.n.toArray⟩, .string ⟨f.d.toArray⟩] 26)).cell? ⟨w.heap.size, 0, none⟩ = some (.string ⟨f.n.toArray⟩) := H.out.c 0 0 rfl rfl
  have x1 : (w.alloc (.cells #[.string ⟨f.n.toArray⟩, .string ⟨f.d.toArray⟩] 26)).cell? ⟨w.heap.size, 1, none⟩ = some (.string ⟨f.d.toArray⟩) := H.out.c 0 1 rfl rfl
  clear hf hp
  unfold FrV at *
  unfold S at *
  go_enter Tryz.func126, Tryz.ntmps126
  go_wp2_with fail
  generalize w.alloc (.cells #[.string ⟨f.n.toArray⟩, .string ⟨f.d.toArray⟩] 26) = W at *
  refine (HPA.out _).mono ?_
  rintro e w1 ⟨rfl, hb⟩
  unfold S
  replace H := Lib.hid (H.out.here hb)
  clear hb x0 x1
  go_wp2_with fail
  refine (HRD.out _ H.out.po).mono ?_
  rintro e w2 ⟨rfl, hb⟩
  unfold S
  replace H := Lib.hid (H.out.here hb)
  go_wp2_with fail
  first | go_ret2 | skip
  exact ⟨rfl, H.out.bl⟩
set_option maxRecDepth 20000 in
theorem floor_any (f : Fr) (hf : f.Sz 40000) : Gives 113 #[FrV f] (S (txtL (flo f.rat))) := by
  intro w hp
  have H := Lib.hid ((Kp.start hp).new w.heap.size rfl #[.string ⟨f.n.toArray⟩, .string ⟨f.d.toArray⟩] 26)
  have HPA := Lib.hid (fun W => parts_any f W (by have := hf.2; omega))
  have hdv : val f.dt ≠ 0 := by rw [Fr.val_dt]; exact f.dv_ne
  have HDV := Lib.hid (fun W hp => (Div_any f.n f.dt W hp (by have := hf.1; omega) (by have := Fr.dt_len hf.2 (by omega); omega)).mono fun e w' h => Div3_ok hdv h)
  have HF := Lib.hid (show txtL ((val f.n).fdiv (val f.dt)) = txtL (flo f.rat) by rw [Fr.val_dt, fdiv_flo _ _ f.dv_ne]; rfl)
  rw [HF.out] at HDV
  generalize txtL (flo f.rat) = res at *
  have x0 : (w.alloc (.cells #[.string ⟨f.n.toArray⟩, .string ⟨f.d.toArray⟩] 26)).cell? ⟨w.heap.size, 0, none⟩ = some (.string ⟨f.n.toArray⟩) := H.out.c 0 0 rfl rfl
  have x1 : (w.alloc (.cells #[.string ⟨f.n.toArray⟩, .string ⟨f.d.toArray⟩] 26)).cell? ⟨w.heap.size, 1, none⟩ = some (.string ⟨f.d.toArray⟩) := H.out.c 0 1 rfl rfl
  clear hf hp hdv HF
  unfold FrV at *
  unfold S at *
  go_enter Tryz.func113, Tryz.ntmps113
  go_wp2_with fail
  generalize w.alloc (.cells #[.string ⟨f.n.toArray⟩, .string ⟨f.d.toArray⟩] 26) = W at *
  refine (HPA.out _).mono ?_
  rintro e w1 ⟨rfl, hb⟩
  unfold S
  replace H := Lib.hid (H.out.here hb)
  clear hb x0 x1
  go_wp2_with fail
  refine (HDV.out _ H.out.po).mono ?_
  rintro e w2 ⟨rfl, hb⟩
  replace H := Lib.hid (H.out.here hb)
  go_wp2_with fail
  first | go_ret | skip
  exact ⟨rfl, H.out.bl⟩
def nwL (f : Fr) : Fr × Int := if val f.d = 0 then (Fr.zero, 10) else (frOf (Rat.divInt (val f.n) (val f.d)), 0)
set_option maxRecDepth 20000 in
set_option maxHeartbeats 1000000 in
theorem new_any (f : Fr) (hf : f.Sz 50000) : Gives 171 #[S f.n, S f.d] (.tuple #[FrV (nwL f).1, .int .i64 (nwL f).2]) := by
  intro w hp
  have H := Lib.hid ((Kp.start hp).new w.heap.size rfl #[.string ⟨#[]⟩, .string ⟨#[]⟩] 26)
  have HCM := Lib.hid (fun W => Compare_any f.d [] W (by have := hf.2; omega) (by simp))
  rw [val_nil, Int.sub_zero] at HCM
  have HMD := Lib.hid (fun W hp h0 => made_any f.n f.d W hp hf.1 hf.2 h0)
  have HNL := Lib.hid (show nwL f = if val f.d = 0 then (Fr.zero, 10) else (frOf (Rat.divInt (val f.n) (val f.d)), 0) from rfl)
  generalize nwL f = nl at *
  generalize frOf (Rat.divInt (val f.n) (val f.d)) = res at *
  have HS := Lib.hid (sgn_zero (val f.d))
  clear hf hp
  unfold FrV at *
  unfold S at *
  go_enter Tryz.func171, Tryz.ntmps171
  go_wp2_with fail
  generalize w.alloc (.cells #[.string ⟨#[]⟩, .string ⟨#[]⟩] 26) = W at *
  refine (HCM.out _).mono ?_
  rintro e w1 ⟨rfl, hb⟩
  replace H := Lib.hid (H.out.here hb)
  have c0 : w1.cell? ⟨w.heap.size, 0, none⟩ = some (.string ⟨#[]⟩) := H.out.c 0 0 rfl rfl
  have c1 : w1.cell? ⟨w.heap.size, 1, none⟩ = some (.string ⟨#[]⟩) := H.out.c 0 1 rfl rfl
  have f0 := H.out.f 0 0 rfl; have f1 := H.out.f 0 1 rfl
  clear hb
  by_cases h0 : val f.d = 0
  · have hs : (sgnI (val f.d) == 0) = true := by rw [HS.out]; simp [h0]
    rw [if_pos h0] at HNL
    clear h0 HS HMD
    go_wp2_with fail
    refine bodyPost_ret (v := .tuple #[.agg #[.string ⟨#[]⟩, .string ⟨#[]⟩], .int .i64 10]) (by simp [results, Tryz.results171, go_sem, c0, c1]) rfl ?_
    rw [HNL.out]
    exact ⟨rfl, ((H.out.set 0 0 rfl _).set 0 1 rfl _).bl⟩
  · have hs : (sgnI (val f.d) == 0) = false := by rw [HS.out]; simp [h0]
    rw [if_neg h0] at HNL
    have HMD2 := Lib.hid (fun W hp => HMD.out W hp h0)
    clear h0 HS HMD c0 c1 f0 f1
    go_wp2_with fail
    refine (HMD2.out _ H.out.po).mono ?_
    rintro e w2 ⟨rfl, hb⟩
    unfold FrV S
    replace H := Lib.hid (H.out.here hb)
    have c0 : w2.cell? ⟨w.heap.size, 0, none⟩ = some (.string ⟨#[]⟩) := H.out.c 0 0 rfl rfl
    have c1 : w2.cell? ⟨w.heap.size, 1, none⟩ = some (.string ⟨#[]⟩) := H.out.c 0 1 rfl rfl
    have f0 := H.out.f 0 0 rfl; have f1 := H.out.f 0 1 rfl
    go_wp2_with fail
    refine bodyPost_ret (v := .tuple #[.agg #[.string ⟨res.n.toArray⟩, .string ⟨res.d.toArray⟩], .int .i64 0]) (by simp [results, Tryz.results171, go_sem, c0, c1]) rfl ?_
    rw [HNL.out]
    exact ⟨rfl, ((H.out.set 0 0 rfl _).set 0 1 rfl _).bl⟩
set_option maxRecDepth 20000 in
theorem iCheck_any (a : List UInt8) (ha : a.length ≤ 1000000000) : Gives 57 #[S a] (.int .i64 (if a = txtL (val a) then 0 else 1)) := by
  intro w hp
  have HC := Lib.hid (canonical_any a w ha)
  rw [canon_val] at HC
  have HEQ := Lib.hid (show ∀ t : List UInt8, (if a = t then (0 : Int) else 1) = if (a == t) = true then 0 else 1 by intro t; by_cases h : a = t <;> simp [h])
  rw [HEQ.out]
  clear HEQ ha
  generalize txtL (val a) = t at *
  unfold S at *
  cases h : (a == t)
  all_goals
    go_enter Tryz.func57, Tryz.ntmps57
    go_wp2_with fail
    refine HC.out.mono ?_
    rintro e w1 ⟨rfl, hb⟩
    go_wp2_with fail
    first | go_ret | skip
    exact ⟨rfl, hb⟩
theorem two_val : val [50] = 2 := by decide +kernel
set_option maxRecDepth 20000 in
theorem even_any (a : List UInt8) (ha : a.length ≤ 100000) : Gives 167 #[S a] (.bool (decide ((val a).fmod 2 = 0))) := by
  intro w hp
  have HDV := Lib.hid ((Div_any a [50] w hp.pow ha (by simp)).mono fun e w' h => Div3_ok (by rw [two_val]; omega) h)
  rw [two_val] at HDV
  have HE := Lib.hid (show (txtL ((val a).fmod 2) == []) = decide ((val a).fmod 2 = 0) by
    rw [Bool.eq_iff_iff]
    simp only [beq_iff_eq, decide_eq_true_eq]
    exact txtL_nil)
  generalize txtL ((val a).fmod 2) = t at *
  generalize decide ((val a).fmod 2 = 0) = bb at *
  clear ha hp
  unfold S at *
  go_enter Tryz.func167, Tryz.ntmps167
  go_wp2_with fail
  refine HDV.out.mono ?_
  rintro e w1 ⟨rfl, hb⟩
  go_wp2_with fail
  first | go_ret | skip
  exact ⟨ret_bool ((show t.isEmpty = (t == []) by cases t <;> rfl).trans HE.out), hb⟩
theorem rnd_case (q : Rat) : (flr q = 0 ∧ rnd q = flo q) ∨ (flr q ≠ 0 ∧ sgnI (flr q + flr q - q.den) = -1 ∧ rnd q = flo q) ∨ (flr q ≠ 0 ∧ sgnI (flr q + flr q - q.den) = 0 ∧ rnd q = if (flo q).fmod 2 = 0 then flo q else flo q + 1) ∨ (flr q ≠ 0 ∧ sgnI (flr q + flr q - q.den) = 1 ∧ rnd q = flo q + 1) := by
  have hb := flr_bounds q
  unfold rnd sgnI
  by_cases h0 : flr q = 0
  · exact .inl ⟨h0, by rw [if_neg]; omega⟩
  · rcases Int.lt_trichotomy (2 * flr q) q.den with h | h | h
    · exact .inr (.inl ⟨h0, by rw [if_pos (by omega)], by rw [if_neg]; omega⟩)
    · refine .inr (.inr (.inl ⟨h0, by rw [if_neg (by omega), if_neg (by omega)], ?_⟩))
      by_cases he : (flo q).fmod 2 = 0
      · rw [if_pos he, if_neg]; omega
      · rw [if_neg he, if_pos (.inr ⟨h, he⟩)]
    · exact .inr (.inr (.inr ⟨h0, by rw [if_neg (by omega), if_pos (by omega)], by rw [if_pos (.inl h)]⟩))
set_option maxRecDepth 20000 in
set_option maxHeartbeats 2000000 in
theorem round_any (f : Fr) (hf : f.Sz 20000) : Gives 124 #[FrV f, .int .i64 1] (.tuple #[S (txtL (rnd f.rat)), .int .i64 0]) := by
  intro w hp
  have H := Lib.hid ((Kp.start hp).new w.heap.size rfl #[.string ⟨f.n.toArray⟩, .string ⟨f.d.toArray⟩] 26)
  have HPA := Lib.hid (partz_any f (hf.more (by omega)))
  have hsz : f.rat.num.natAbs < 10 ^ 20000 ∧ f.rat.den < 10 ^ 20000 := by
    obtain ⟨K, hK⟩ : ∃ K : Nat, K = 20000 := ⟨_, rfl⟩
    rw [← hK] at hf ⊢
    exact sz_rb hf (by omega)
  have hd0 : (f.rat.den : Int) ≠ 0 := by have := f.rat.den_nz; omega
  have hbd := flr_bounds f.rat
  have hlo := flo_le f.rat
  have HRC := Lib.hid (rnd_case f.rat)
  generalize hq : f.rat = q at *
  obtain ⟨K, hK⟩ : ∃ K : Nat, K = 20000 := ⟨_, rfl⟩
  rw [← hK] at hsz
  have hp1 : 10 ^ K + 1 < 10 ^ (K + 1) := by have : 1 ≤ 10 ^ K := Nat.pow_pos (by omega); rw [Nat.pow_succ]; have : 10 ^ 1 ≤ 10 ^ K := Nat.pow_le_pow_right (by omega) (by omega); omega
  have hp2 : 10 ^ (K + 1) + 1 < 10 ^ (K + 2) := by have : 10 ^ 1 ≤ 10 ^ (K + 1) := Nat.pow_le_pow_right (by omega) (by omega); rw [Nat.pow_succ 10 (K + 1)]; omega
  have l1 := txtL_length (n := q.num) (L := K) hsz.1
  have l2 := txtL_length (n := (q.den : Int)) (L := K) (by simpa using hsz.2)
  have l3 := txtL_length (n := flo q) (L := K + 1) (by omega)
  have l4 := txtL_length (n := flr q) (L := K) (by omega)
  have l5 := txtL_length (n := flr q + flr q) (L := K + 1) (by omega)
  clear hp1 hp2 hlo hsz
  have HDV := Lib.hid (fun W hp => (Div_any (txtL q.num) (txtL q.den) W hp (by omega) (by omega)).mono fun e w' h => Div3_ok (by rw [val_txtL]; exact hd0) h)
  rw [val_txtL, val_txtL, show q.num.fdiv (q.den : Int) = flo q from rfl, show q.num.fmod (q.den : Int) = flr q from rfl] at HDV
  have HCN := Lib.hid (fun W => Compare_any (txtL q.num) [] W (by omega) (by simp))
  have HAR := Lib.hid (fun W hp => Add_any (txtL (flr q)) (txtL (flr q)) W hp (by omega) (by omega))
  rw [val_txtL] at HAR
  have HCM := Lib.hid (fun W => Compare_any (txtL (flr q + flr q)) (txtL q.den) W (by omega) (by omega))
  rw [val_txtL, val_txtL] at HCM
  have HAD := Lib.hid (fun W hp => Add_any (txtL (flo q)) [49] W hp (by omega) (by simp))
  rw [val_txtL, one_val] at HAD
  have HEV := Lib.hid (even_any (txtL (flo q)) (by omega))
  rw [val_txtL] at HEV
  have HNZ := Lib.hid (show flr q ≠ 0 → (txtL (flr q) == []) = false by
    intro h
    rw [Bool.eq_false_iff]
    intro h2
    exact h (txtL_nil.1 (eq_of_beq h2)))
  clear hf hp hq hK l1 l2 l3 l4 l5 hbd hd0
  have x0 : (w.alloc (.cells #[.string ⟨f.n.toArray⟩, .string ⟨f.d.toArray⟩] 26)).cell? ⟨w.heap.size, 0, none⟩ = some (.string ⟨f.n.toArray⟩) := H.out.c 0 0 rfl rfl
  have x1 : (w.alloc (.cells #[.string ⟨f.n.toArray⟩, .string ⟨f.d.toArray⟩] 26)).cell? ⟨w.heap.size, 1, none⟩ = some (.string ⟨f.d.toArray⟩) := H.out.c 0 1 rfl rfl
  generalize sgnI (val (txtL q.num) - val []) = sn at *
  unfold FrV at *
  unfold S at *
  go_enter Tryz.func124, Tryz.ntmps124
  go_wp2_with fail
  generalize w.alloc (.cells #[.string ⟨f.n.toArray⟩, .string ⟨f.d.toArray⟩] 26) = W at *
  refine (HPA.out _ H.out.pw).mono ?_
  rintro e w1 ⟨rfl, hb⟩
  replace H := Lib.hid (H.out.here hb)
  clear hb x0 x1
  go_wp2_with fail
  refine (HDV.out _ H.out.po).mono ?_
  rintro e w2 ⟨rfl, hb⟩
  replace H := Lib.hid (H.out.here hb)
  clear hb
  rcases HRC.out with ⟨hr, hres⟩ | ⟨hr, hs, hres⟩ | ⟨hr, hs, hres⟩ | ⟨hr, hs, hres⟩
  · rw [hr] at HAR HCM ⊢
    rw [show txtL (0 : Int) = [] from rfl] at HAR ⊢
    rw [show (0 : Int) + 0 = 0 from rfl, show txtL (0 : Int) = [] from rfl] at HAR
    rw [show (0 : Int) + 0 = 0 from rfl, show txtL (0 : Int) = [] from rfl, show sgnI (0 - (q.den : Int)) = -1 by unfold sgnI; rw [if_pos]; have := q.den_pos; omega] at HCM
    have HRES := Lib.hid hres
    clear hr hres HRC HNZ HAD
    go_wp2_with fail
    refine (HCN.out _).mono ?_
    rintro e w3 ⟨rfl, hb⟩
    replace H := Lib.hid (H.out.here hb)
    clear hb
    go_wp2_with fail
    refine (HAR.out _ H.out.po).mono ?_
    rintro e w4 ⟨rfl, hb⟩
    replace H := Lib.hid (H.out.here hb)
    clear hb
    try unfold S
    go_wp2_with fail
    refine (HCM.out _).mono ?_
    rintro e w5 ⟨rfl, hb⟩
    replace H := Lib.hid (H.out.here hb)
    clear hb
    go_wp2_with fail
    first | go_ret2 | skip
    rw [HRES.out]
    exact ⟨rfl, H.out.bl⟩
  all_goals
    have hne := HNZ.out hr
    rw [hs] at HCM
    have HRES := Lib.hid hres
    clear hr hs hres HRC HNZ
    go_wp2_with fail
    refine (HAD.out _ H.out.po).mono ?_
    rintro e w2b ⟨rfl, hb⟩
    replace H := Lib.hid (H.out.here hb)
    clear hb
    try unfold S
    go_wp2_with fail
    refine (HCN.out _).mono ?_
    rintro e w3 ⟨rfl, hb⟩
    replace H := Lib.hid (H.out.here hb)
    clear hb
    go_wp2_with fail
    refine (HAR.out _ H.out.po).mono ?_
    rintro e w4 ⟨rfl, hb⟩
    replace H := Lib.hid (H.out.here hb)
    clear hb
    try unfold S
    go_wp2_with fail
    refine (HCM.out _).mono ?_
    rintro e w5 ⟨rfl, hb⟩
    replace H := Lib.hid (H.out.here hb)
    clear hb
  · go_wp2_with fail
    first | go_ret2 | skip
    rw [HRES.out]
    exact ⟨rfl, H.out.bl⟩
  · by_cases he : (flo q).fmod 2 = 0
    · rw [if_pos he] at HRES
      rw [show decide ((flo q).fmod 2 = 0) = true by simp [he]] at HEV
      clear he
      go_wp2_with fail
      refine (HEV.out _ H.out.pw).mono ?_
      rintro e w6 ⟨rfl, hb⟩
      replace H := Lib.hid (H.out.here hb)
      clear hb
      go_wp2_with fail
      first | go_ret2 | skip
      rw [HRES.out]
      exact ⟨rfl, H.out.bl⟩
    · rw [if_neg he] at HRES
      rw [show decide ((flo q).fmod 2 = 0) = false by simp [he]] at HEV
      clear he
      go_wp2_with fail
      refine (HEV.out _ H.out.pw).mono ?_
      rintro e w6 ⟨rfl, hb⟩
      replace H := Lib.hid (H.out.here hb)
      clear hb
      go_wp2_with fail
      first | go_ret2 | skip
      rw [HRES.out]
      exact ⟨rfl, H.out.bl⟩
  · go_wp2_with fail
    first | go_ret2 | skip
    rw [HRES.out]
    exact ⟨rfl, H.out.bl⟩
end Go.Proofs.YtpnncoinlopndaaGreatDoor

