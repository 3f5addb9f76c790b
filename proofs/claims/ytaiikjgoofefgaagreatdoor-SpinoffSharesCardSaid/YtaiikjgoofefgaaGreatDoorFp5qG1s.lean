/- Contracts of fraction's Add, Sub, Mul, Quo. -/
import Derived.Test.YtaiikjgoofefgaaGreatDoorFp4qG1s
namespace Go.Proofs.YtaiikjgoofefgaaGreatDoor
open Go.RowKit Go.Shelf

/-- Three fractions in blocks of their own. -/
structure Fr3 (w : World) (p : Nat) (f h : Fr) (W : World) : Prop where
  a : FrB W p f
  b : FrB W (p + 1) h
  c : FrB W (p + 1 + 1) Fr.zero
  bl : Below w.heap.size w W
  hp : w.heap.size ≤ p
theorem Fr3.here {w : World} {p : Nat} {f h : Fr} {W W' : World} (H : Fr3 w p f h W) (hb : Below W.heap.size W W') : Fr3 w p f h W' := ⟨H.a.here hb, H.b.here hb, H.c.here hb, H.bl.trans (hb.mono H.bl.size), H.hp⟩
theorem Fr3.held {w : World} {p : Nat} {f h : Fr} {W : World} (H : Fr3 w p f h W) : W.cell? ⟨p, 0, none⟩ = some (.string ⟨f.n.toArray⟩) ∧ W.cell? ⟨p, 1, none⟩ = some (.string ⟨f.d.toArray⟩) ∧ W.cell? ⟨p + 1, 0, none⟩ = some (.string ⟨h.n.toArray⟩) ∧ W.cell? ⟨p + 1, 1, none⟩ = some (.string ⟨h.d.toArray⟩) :=
  ⟨H.a.cells.1, H.a.cells.2, H.b.cells.1, H.b.cells.2⟩
theorem Fr3.heldS {w : World} {p : Nat} {f h : Fr} {W : World} (H : Fr3 w p f h W) (u v : Value) : ((W.setCell ⟨p + 1 + 1, 0, none⟩ u).setCell ⟨p + 1 + 1, 1, none⟩ v).cell? ⟨p, 0, none⟩ = some (.string ⟨f.n.toArray⟩) ∧ ((W.setCell ⟨p + 1 + 1, 0, none⟩ u).setCell ⟨p + 1 + 1, 1, none⟩ v).cell? ⟨p, 1, none⟩ = some (.string ⟨f.d.toArray⟩) ∧ ((W.setCell ⟨p + 1 + 1, 0, none⟩ u).setCell ⟨p + 1 + 1, 1, none⟩ v).cell? ⟨p + 1, 0, none⟩ = some (.string ⟨h.n.toArray⟩) ∧ ((W.setCell ⟨p + 1 + 1, 0, none⟩ u).setCell ⟨p + 1 + 1, 1, none⟩ v).cell? ⟨p + 1, 1, none⟩ = some (.string ⟨h.d.toArray⟩) :=
  have h1 := ((H.a.far (a := ⟨p + 1 + 1, 0, none⟩) (by simp only; omega) u).far (a := ⟨p + 1 + 1, 1, none⟩) (by simp only; omega) v).cells
  have h2 := ((H.b.far (a := ⟨p + 1 + 1, 0, none⟩) (by simp only; omega) u).far (a := ⟨p + 1 + 1, 1, none⟩) (by simp only; omega) v).cells
  ⟨h1.1, h1.2, h2.1, h2.2⟩
theorem Fr3.new (w : World) (f h : Fr) : Fr3 w w.heap.size f h (((w.alloc (.cells #[.string ⟨f.n.toArray⟩, .string ⟨f.d.toArray⟩] 24)).alloc (.cells #[.string ⟨h.n.toArray⟩, .string ⟨h.d.toArray⟩] 24)).alloc (.cells #[.string ⟨#[]⟩, .string ⟨#[]⟩] 24)) := by
  refine ⟨((FrB.new w f).alloc _).alloc _, ?_, ?_, (((Below.refl _ _).alloc (Nat.le_refl _) _).alloc (by simp) _).alloc (by simp; omega) _, Nat.le_refl _⟩
  · have := (FrB.new (w.alloc (.cells #[.string ⟨f.n.toArray⟩, .string ⟨f.d.toArray⟩] 24)) h).alloc (.cells #[.string ⟨#[]⟩, .string ⟨#[]⟩] 24)
    simp only [World.size_alloc] at this
    exact this
  · have := FrB.new ((w.alloc (.cells #[.string ⟨f.n.toArray⟩, .string ⟨f.d.toArray⟩] 24)).alloc (.cells #[.string ⟨h.n.toArray⟩, .string ⟨h.d.toArray⟩] 24)) Fr.zero
    simp only [World.size_alloc] at this
    exact this
theorem idx_ops (p : Nat) (W : World) : (Instr.index 43 (.agg #[.func (.func 44) #[] #[.pointer (some ⟨p, 0, none⟩)], .func (.func 46) #[] #[.pointer (some ⟨p, 0, none⟩)], .func (.func 48) #[] #[.pointer (some ⟨p, 0, none⟩)], .func (.func 49) #[] #[.pointer (some ⟨p, 0, none⟩)]]) (.int .i64 0)).run Tryz.prog W = .ok (.func (.func 44) #[] #[.pointer (some ⟨p, 0, none⟩)]) W := by kernel_rfl
theorem idx_ops1 (p : Nat) (W : World) : (Instr.index 43 (.agg #[.func (.func 44) #[] #[.pointer (some ⟨p, 0, none⟩)], .func (.func 46) #[] #[.pointer (some ⟨p, 0, none⟩)], .func (.func 48) #[] #[.pointer (some ⟨p, 0, none⟩)], .func (.func 49) #[] #[.pointer (some ⟨p, 0, none⟩)]]) (.int .i64 1)).run Tryz.prog W = .ok (.func (.func 46) #[] #[.pointer (some ⟨p, 0, none⟩)]) W := by kernel_rfl
theorem idx_ops2 (p : Nat) (W : World) : (Instr.index 43 (.agg #[.func (.func 44) #[] #[.pointer (some ⟨p, 0, none⟩)], .func (.func 46) #[] #[.pointer (some ⟨p, 0, none⟩)], .func (.func 48) #[] #[.pointer (some ⟨p, 0, none⟩)], .func (.func 49) #[] #[.pointer (some ⟨p, 0, none⟩)]]) (.int .i64 2)).run Tryz.prog W = .ok (.func (.func 48) #[] #[.pointer (some ⟨p, 0, none⟩)]) W := by kernel_rfl
theorem idx_ops3 (p : Nat) (W : World) : (Instr.index 43 (.agg #[.func (.func 44) #[] #[.pointer (some ⟨p, 0, none⟩)], .func (.func 46) #[] #[.pointer (some ⟨p, 0, none⟩)], .func (.func 48) #[] #[.pointer (some ⟨p, 0, none⟩)], .func (.func 49) #[] #[.pointer (some ⟨p, 0, none⟩)]]) (.int .i64 3)).run Tryz.prog W = .ok (.func (.func 49) #[] #[.pointer (some ⟨p, 0, none⟩)]) W := by kernel_rfl
theorem rb_len {n : Int} {L M : Nat} (h : n.natAbs < 10 ^ L) (hL : L + 1 ≤ M) : (txtL n).length ≤ M := Nat.le_trans (txtL_length h) hL

set_option maxRecDepth 20000 in
set_option maxHeartbeats 1000000 in
theorem fAdd_any (f h : Fr) (w : World) (hp : Pow w) (hf : f.Sz 20000) (hh : h.Sz 20000) : Calls Tryz.prog 12 #[FrV f, FrV h] w (FracPost (frOf (f.rat + h.rat)) w) := by
  have HAP := Lib.hid (fun p W hlt hc hpw => by
    obtain ⟨K, hKe⟩ : ∃ K : Nat, K = 20000 := ⟨_, rfl⟩
    rw [← hKe] at hf hh
    have hK : 1 ≤ K := by omega
    exact apply_any 44 _ fop1 p f h W hlt hc hpw (by rw [← hKe]; exact hf) (by rw [← hKe]; exact hh) (Int.mul_ne_zero f.dv_ne h.dv_ne) (rb_len (add_lt_pow (mul_lt_pow (val_lt' hf.1) (Fr.dv_lt hh.2 hK)) (mul_lt_pow (val_lt' hh.1) (Fr.dv_lt hf.2 hK))) (by omega)) (rb_len (mul_lt_pow (Fr.dv_lt hf.2 hK) (Fr.dv_lt hh.2 hK)) (by omega)))
  simp only [← rat_add] at HAP
  have HPO := Lib.hid (show FracPost (frOf (f.rat + h.rat)) w = fun e w' => e = .returned (FrV (frOf (f.rat + h.rat))) ∧ Below w.heap.size w w' from rfl)
  generalize FracPost (frOf (f.rat + h.rat)) w = post at *
  generalize frOf (f.rat + h.rat) = res at *
  have H3 := Lib.hid (Fr3.new w f h)
  have HP := Lib.hid hp
  obtain ⟨x0, x1, y0, y1⟩ := H3.out.held
  clear hp hf hh
  unfold FrV at *
  unfold S at *
  go_enter Tryz.func12, Tryz.ntmps12
  go_upto_region 1 with (fail)
  generalize (((w.alloc (.cells #[.string ⟨f.n.toArray⟩, .string ⟨f.d.toArray⟩] 24)).alloc (.cells #[.string ⟨h.n.toArray⟩, .string ⟨h.d.toArray⟩] 24)).alloc (.cells #[.string ⟨#[]⟩, .string ⟨#[]⟩] 24)) = W at *
  go_region_held3 (fun w' => w'.cell? ⟨w.heap.size, 0, none⟩ = some (.string ⟨f.n.toArray⟩) ∧ w'.cell? ⟨w.heap.size, 1, none⟩ = some (.string ⟨f.d.toArray⟩) ∧ w'.cell? ⟨w.heap.size + 1, 0, none⟩ = some (.string ⟨h.n.toArray⟩) ∧ w'.cell? ⟨w.heap.size + 1, 1, none⟩ = some (.string ⟨h.d.toArray⟩))
    (first
      | exact (H3.out.here hz2).heldS _ _
      | exact (H3.out.here hz2).held
      | exact (H3.out.here hz).held
      | go_keep)
    (first
      | (go_at_call 27; refine (ops_any _).mono ?_; rintro e w1 ⟨p, rfl, hlt, hc, hb1⟩; have hz : Below W.heap.size W w1 := (Below.refl _ W).drew.trans hb1; have hix := idx_ops p w1)
      | (go_at_call 26; refine (HAP.out p _ hlt hc (HP.out.here (H3.out.here hz).bl)).mono ?_; rintro e w2 ⟨rfl, hb2⟩; unfold FrV S; have hz2 := hz.trans (hb2.mono hz.size); have z0 := (H3.out.here hz2).c.cells.1; have z1 := (H3.out.here hz2).c.cells.2; have f0 := (H3.out.here hz2).c.frozen 0; have f1 := (H3.out.here hz2).c.frozen 1))
  all_goals
    go_wp2_with fail
    refine bodyPost_ret (v := .agg #[.string ⟨res.n.toArray⟩, .string ⟨res.d.toArray⟩]) (by simp [results, Tryz.results12, go_sem, z0, z1]) rfl ?_
    rw [HPO.out]
    exact ⟨rfl, ((H3.out.here hz2).bl.setCell (p := ⟨w.heap.size + 1 + 1, 0, none⟩) (by simp only; omega) _).setCell (p := ⟨w.heap.size + 1 + 1, 1, none⟩) (by simp only; omega) _⟩
set_option maxRecDepth 20000 in
set_option maxHeartbeats 1000000 in
theorem fSub_any (f h : Fr) (w : World) (hp : Pow w) (hf : f.Sz 20000) (hh : h.Sz 20000) : Calls Tryz.prog 23 #[FrV f, FrV h] w (FracPost (frOf (f.rat - h.rat)) w) := by
  have HAP := Lib.hid (fun p W hlt hc hpw => by
    obtain ⟨K, hKe⟩ : ∃ K : Nat, K = 20000 := ⟨_, rfl⟩
    rw [← hKe] at hf hh
    have hK : 1 ≤ K := by omega
    exact apply_any 46 _ fop2 p f h W hlt hc hpw (by rw [← hKe]; exact hf) (by rw [← hKe]; exact hh) (Int.mul_ne_zero f.dv_ne h.dv_ne) (rb_len (sub_lt_pow (mul_lt_pow (val_lt' hf.1) (Fr.dv_lt hh.2 hK)) (mul_lt_pow (val_lt' hh.1) (Fr.dv_lt hf.2 hK))) (by omega)) (rb_len (mul_lt_pow (Fr.dv_lt hf.2 hK) (Fr.dv_lt hh.2 hK)) (by omega)))
  simp only [← rat_sub] at HAP
  have HPO := Lib.hid (show FracPost (frOf (f.rat - h.rat)) w = fun e w' => e = .returned (FrV (frOf (f.rat - h.rat))) ∧ Below w.heap.size w w' from rfl)
  generalize FracPost (frOf (f.rat - h.rat)) w = post at *
  generalize frOf (f.rat - h.rat) = res at *
  have H3 := Lib.hid (Fr3.new w f h)
  have HP := Lib.hid hp
  obtain ⟨x0, x1, y0, y1⟩ := H3.out.held
  clear hp hf hh
  unfold FrV at *
  unfold S at *
  go_enter Tryz.func23, Tryz.ntmps23
  go_upto_region 1 with (fail)
  generalize (((w.alloc (.cells #[.string ⟨f.n.toArray⟩, .string ⟨f.d.toArray⟩] 24)).alloc (.cells #[.string ⟨h.n.toArray⟩, .string ⟨h.d.toArray⟩] 24)).alloc (.cells #[.string ⟨#[]⟩, .string ⟨#[]⟩] 24)) = W at *
  go_region_held3 (fun w' => w'.cell? ⟨w.heap.size, 0, none⟩ = some (.string ⟨f.n.toArray⟩) ∧ w'.cell? ⟨w.heap.size, 1, none⟩ = some (.string ⟨f.d.toArray⟩) ∧ w'.cell? ⟨w.heap.size + 1, 0, none⟩ = some (.string ⟨h.n.toArray⟩) ∧ w'.cell? ⟨w.heap.size + 1, 1, none⟩ = some (.string ⟨h.d.toArray⟩))
    (first
      | exact (H3.out.here hz2).heldS _ _
      | exact (H3.out.here hz2).held
      | exact (H3.out.here hz).held
      | go_keep)
    (first
      | (go_at_call 27; refine (ops_any _).mono ?_; rintro e w1 ⟨p, rfl, hlt, hc, hb1⟩; have hz : Below W.heap.size W w1 := (Below.refl _ W).drew.trans hb1; have hix := idx_ops1 p w1)
      | (go_at_call 26; refine (HAP.out p _ hlt hc (HP.out.here (H3.out.here hz).bl)).mono ?_; rintro e w2 ⟨rfl, hb2⟩; unfold FrV S; have hz2 := hz.trans (hb2.mono hz.size); have z0 := (H3.out.here hz2).c.cells.1; have z1 := (H3.out.here hz2).c.cells.2; have f0 := (H3.out.here hz2).c.frozen 0; have f1 := (H3.out.here hz2).c.frozen 1))
  all_goals
    go_wp2_with fail
    refine bodyPost_ret (v := .agg #[.string ⟨res.n.toArray⟩, .string ⟨res.d.toArray⟩]) (by simp [results, Tryz.results23, go_sem, z0, z1]) rfl ?_
    rw [HPO.out]
    exact ⟨rfl, ((H3.out.here hz2).bl.setCell (p := ⟨w.heap.size + 1 + 1, 0, none⟩) (by simp only; omega) _).setCell (p := ⟨w.heap.size + 1 + 1, 1, none⟩) (by simp only; omega) _⟩
set_option maxRecDepth 20000 in
set_option maxHeartbeats 1000000 in
theorem fMul_any (f h : Fr) (w : World) (hp : Pow w) (hf : f.Sz 20000) (hh : h.Sz 20000) : Calls Tryz.prog 11 #[FrV f, FrV h] w (FracPost (frOf (f.rat * h.rat)) w) := by
  have HAP := Lib.hid (fun p W hlt hc hpw => by
    obtain ⟨K, hKe⟩ : ∃ K : Nat, K = 20000 := ⟨_, rfl⟩
    rw [← hKe] at hf hh
    have hK : 1 ≤ K := by omega
    exact apply_any 48 _ fop3 p f h W hlt hc hpw (by rw [← hKe]; exact hf) (by rw [← hKe]; exact hh) (Int.mul_ne_zero f.dv_ne h.dv_ne) (rb_len (mul_lt_pow (val_lt' hf.1) (val_lt' hh.1)) (by omega)) (rb_len (mul_lt_pow (Fr.dv_lt hf.2 hK) (Fr.dv_lt hh.2 hK)) (by omega)))
  simp only [← rat_mul] at HAP
  have HPO := Lib.hid (show FracPost (frOf (f.rat * h.rat)) w = fun e w' => e = .returned (FrV (frOf (f.rat * h.rat))) ∧ Below w.heap.size w w' from rfl)
  generalize FracPost (frOf (f.rat * h.rat)) w = post at *
  generalize frOf (f.rat * h.rat) = res at *
  have H3 := Lib.hid (Fr3.new w f h)
  have HP := Lib.hid hp
  obtain ⟨x0, x1, y0, y1⟩ := H3.out.held
  clear hp hf hh
  unfold FrV at *
  unfold S at *
  go_enter Tryz.func11, Tryz.ntmps11
  go_upto_region 1 with (fail)
  generalize (((w.alloc (.cells #[.string ⟨f.n.toArray⟩, .string ⟨f.d.toArray⟩] 24)).alloc (.cells #[.string ⟨h.n.toArray⟩, .string ⟨h.d.toArray⟩] 24)).alloc (.cells #[.string ⟨#[]⟩, .string ⟨#[]⟩] 24)) = W at *
  go_region_held3 (fun w' => w'.cell? ⟨w.heap.size, 0, none⟩ = some (.string ⟨f.n.toArray⟩) ∧ w'.cell? ⟨w.heap.size, 1, none⟩ = some (.string ⟨f.d.toArray⟩) ∧ w'.cell? ⟨w.heap.size + 1, 0, none⟩ = some (.string ⟨h.n.toArray⟩) ∧ w'.cell? ⟨w.heap.size + 1, 1, none⟩ = some (.string ⟨h.d.toArray⟩))
    (first
      | exact (H3.out.here hz2).heldS _ _
      | exact (H3.out.here hz2).held
      | exact (H3.out.here hz).held
      | go_keep)
    (first
      | (go_at_call 27; refine (ops_any _).mono ?_; rintro e w1 ⟨p, rfl, hlt, hc, hb1⟩; have hz : Below W.heap.size W w1 := (Below.refl _ W).drew.trans hb1; have hix := idx_ops2 p w1)
      | (go_at_call 26; refine (HAP.out p _ hlt hc (HP.out.here (H3.out.here hz).bl)).mono ?_; rintro e w2 ⟨rfl, hb2⟩; unfold FrV S; have hz2 := hz.trans (hb2.mono hz.size); have z0 := (H3.out.here hz2).c.cells.1; have z1 := (H3.out.here hz2).c.cells.2; have f0 := (H3.out.here hz2).c.frozen 0; have f1 := (H3.out.here hz2).c.frozen 1))
  all_goals
    go_wp2_with fail
    refine bodyPost_ret (v := .agg #[.string ⟨res.n.toArray⟩, .string ⟨res.d.toArray⟩]) (by simp [results, Tryz.results11, go_sem, z0, z1]) rfl ?_
    rw [HPO.out]
    exact ⟨rfl, ((H3.out.here hz2).bl.setCell (p := ⟨w.heap.size + 1 + 1, 0, none⟩) (by simp only; omega) _).setCell (p := ⟨w.heap.size + 1 + 1, 1, none⟩) (by simp only; omega) _⟩
end Go.Proofs.YtaiikjgoofefgaaGreatDoor
