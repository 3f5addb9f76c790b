/- The reference's fractions: Add, Mul, Quo, Compare. Printed by gen_rf3.py. -/
import Derived.Test.YtaiikjgoofefgaaGreatDoorRF2qG1s
namespace Go.Proofs.YtaiikjgoofefgaaGreatDoor
open Go.RowKit Go.Shelf

theorem mul_txt_len {a b : List UInt8} {L : Nat} (ha : a.length ≤ L) (hb : b.length ≤ L) : (txtL (val a * val b)).length ≤ L + L + 1 := txtL_length (mul_lt_pow (val_lt' ha) (val_lt' hb))
theorem muladd_txt_len {a b c d : List UInt8} {L : Nat} (ha : a.length ≤ L) (hb : b.length ≤ L) (hc : c.length ≤ L) (hd : d.length ≤ L) : (txtL (val a * val b + val c * val d)).length ≤ L + L + 1 + 1 :=
  txtL_length (add_lt_pow (mul_lt_pow (val_lt' ha) (val_lt' hb)) (mul_lt_pow (val_lt' hc) (val_lt' hd)))
theorem cmp_raw (x y : Fr) (hx : 0 < val x.d) (hy : 0 < val y.d) : sgnI (val (txtL (val x.n * val y.d)) - val (txtL (val y.n * val x.d))) = cmpR x.rat y.rat := by
  have e1 : x.rat = Rat.divInt (val x.n) (val x.d) := by unfold Fr.rat Fr.dv; rw [if_neg (by omega)]
  have e2 : y.rat = Rat.divInt (val y.n) (val y.d) := by unfold Fr.rat Fr.dv; rw [if_neg (by omega)]
  rw [e1, e2, cmpR_divInt _ _ hx hy, val_txtL, val_txtL]
theorem add_raw (x y : Fr) (hx : 0 < val x.d) (hy : 0 < val y.d) : Rat.divInt (val (txtL (val x.n * val y.d + val y.n * val x.d))) (val (txtL (val x.d * val y.d))) = x.rat + y.rat := by
  have e1 : x.dv = val x.d := by unfold Fr.dv; rw [if_neg (by omega)]
  have e2 : y.dv = val y.d := by unfold Fr.dv; rw [if_neg (by omega)]
  rw [rat_add, e1, e2, val_txtL, val_txtL]
theorem mul_raw (x y : Fr) (hx : 0 < val x.d) (hy : 0 < val y.d) : Rat.divInt (val (txtL (val x.n * val y.n))) (val (txtL (val x.d * val y.d))) = x.rat * y.rat := by
  have e1 : x.dv = val x.d := by unfold Fr.dv; rw [if_neg (by omega)]
  have e2 : y.dv = val y.d := by unfold Fr.dv; rw [if_neg (by omega)]
  rw [rat_mul, e1, e2, val_txtL, val_txtL]
theorem quo_raw (x y : Fr) (hx : 0 < val x.d) (hy : 0 < val y.d) (h : val y.n ≠ 0) : (⟨txtL (val x.n * val y.d), txtL (val x.d * val y.n)⟩ : Fr).rat = x.rat / y.rat ∧ val (txtL (val x.d * val y.n)) ≠ 0 := by
  have e1 : x.dv = val x.d := by unfold Fr.dv; rw [if_neg (by omega)]
  have e2 : y.dv = val y.d := by unfold Fr.dv; rw [if_neg (by omega)]
  have h0 : val x.d * val y.n ≠ 0 := Int.mul_ne_zero (by omega) h
  refine ⟨?_, by rw [val_txtL]; exact h0⟩
  rw [rat_div, e1, e2]
  unfold Fr.rat Fr.dv
  simp only [val_txtL]
  rw [if_neg h0]
set_option maxRecDepth 20000 in
set_option maxHeartbeats 1000000 in
theorem zAdd_any (f h : Fr) (w : World) (hf : f.Sz 20000) (hh : h.Sz 20000) : Calls Tryz.prog 22 #[FrV f, FrV h] w (FracPost (frOf (f.rat + h.rat)) w) := by
  have HR1 := Lib.hid (fun W => zRaw_any f W (hf.more (by omega)))
  have HR2 := Lib.hid (fun W => zRaw_any h W (hh.more (by omega)))
  obtain ⟨fn, fd⟩ := f.raw_sz hf (by omega)
  obtain ⟨hn, hd⟩ := h.raw_sz hh (by omega)
  have fp := f.raw_pos
  have hp := h.raw_pos
  have HM1 := Lib.hid (fun W => rMul_any f.raw.n h.raw.d W (by omega) (by omega))
  have HM2 := Lib.hid (fun W => rMul_any h.raw.n f.raw.d W (by omega) (by omega))
  have HM3 := Lib.hid (fun W => rMul_any f.raw.d h.raw.d W (by omega) (by omega))
  have HAD := Lib.hid (fun W => rAdd_any (txtL (val f.raw.n * val h.raw.d)) (txtL (val h.raw.n * val f.raw.d)) W (by have := mul_txt_len fn hd; omega) (by have := mul_txt_len hn fd; omega))
  rw [val_txtL, val_txtL] at HAD
  have HRD := Lib.hid (fun W => zReduced_any (txtL (val f.raw.n * val h.raw.d + val h.raw.n * val f.raw.d)) (txtL (val f.raw.d * val h.raw.d)) W (by have := muladd_txt_len fn hd hn fd; omega) (by have := mul_txt_len fd hd; omega) (by rw [val_txtL]; exact Int.mul_pos fp hp))
  rw [add_raw _ _ fp hp, f.raw_rat', h.raw_rat'] at HRD
  have HPO := Lib.hid (show FracPost (frOf (f.rat + h.rat)) w = fun e w' => e = .returned (FrV (frOf (f.rat + h.rat))) ∧ Below w.heap.size w w' from rfl)
  generalize FracPost (frOf (f.rat + h.rat)) w = post at *
  have H3 := Lib.hid (Fr3.new w f h)
  obtain ⟨x0, x1, y0, y1⟩ := H3.out.held
  generalize frOf (f.rat + h.rat) = res at *
  clear fn fd hn hd fp hp
  generalize f.raw = x at *
  generalize h.raw = y at *
  clear hf hh
  unfold FrV at *
  unfold S at *
  go_enter Tryz.func22, Tryz.ntmps22
  go_wp2_with fail
  generalize (((w.alloc (.cells #[.string ⟨f.n.toArray⟩, .string ⟨f.d.toArray⟩] 24)).alloc (.cells #[.string ⟨h.n.toArray⟩, .string ⟨h.d.toArray⟩] 24)).alloc (.cells #[.string ⟨#[]⟩, .string ⟨#[]⟩] 24)) = W0 at *
  refine (HR1.out _).mono ?_
  rintro e w1 ⟨rfl, hb1⟩
  unfold S
  have H4 := Lib.hid (H3.out.here hb1)
  clear x0 x1 y0 y1 HR1 H3
  obtain ⟨x0, x1, y0, y1⟩ := H4.out.held
  go_wp2_with fail
  refine (HR2.out _).mono ?_
  rintro e w2 ⟨rfl, hb2⟩
  unfold S
  have H5 := Lib.hid (H4.out.here hb2)
  clear x0 x1 y0 y1 HR2 H4 hb1 hb2
  go_wp2_with fail
  refine (HM1.out _).mono ?_
  rintro e w3 ⟨rfl, hb⟩
  try unfold S
  have H6 := Lib.hid (H5.out.here hb)
  clear hb H5
  go_wp2_with fail
  refine (HM2.out _).mono ?_
  rintro e w4 ⟨rfl, hb⟩
  try unfold S
  have H7 := Lib.hid (H6.out.here hb)
  clear hb H6
  go_wp2_with fail
  refine (HAD.out _).mono ?_
  rintro e w5 ⟨rfl, hb⟩
  try unfold S
  have H8 := Lib.hid (H7.out.here hb)
  clear hb H7
  go_wp2_with fail
  refine (HM3.out _).mono ?_
  rintro e w6 ⟨rfl, hb⟩
  try unfold S
  have H8b := Lib.hid (H8.out.here hb)
  clear hb H8
  go_wp2_with fail
  refine (HRD.out _).mono ?_
  rintro e w9 ⟨rfl, hb⟩
  unfold FrV S
  have H9 := Lib.hid (H8b.out.here hb)
  have z0 := H9.out.c.cells.1; have z1 := H9.out.c.cells.2; have f0 := H9.out.c.frozen 0; have f1 := H9.out.c.frozen 1
  go_wp2_with fail
  refine bodyPost_ret (v := .agg #[.string ⟨res.n.toArray⟩, .string ⟨res.d.toArray⟩]) (by simp [results, Tryz.results22, go_sem, z0, z1]) rfl ?_
  rw [HPO.out]
  exact ⟨rfl, (H9.out.bl.setCell (p := ⟨w.heap.size + 1 + 1, 0, none⟩) (by simp only; omega) _).setCell (p := ⟨w.heap.size + 1 + 1, 1, none⟩) (by simp only; omega) _⟩
set_option maxRecDepth 20000 in
set_option maxHeartbeats 1000000 in
theorem zMul_any (f h : Fr) (w : World) (hf : f.Sz 20000) (hh : h.Sz 20000) : Calls Tryz.prog 20 #[FrV f, FrV h] w (FracPost (frOf (f.rat * h.rat)) w) := by
  have HR1 := Lib.hid (fun W => zRaw_any f W (hf.more (by omega)))
  have HR2 := Lib.hid (fun W => zRaw_any h W (hh.more (by omega)))
  obtain ⟨fn, fd⟩ := f.raw_sz hf (by omega)
  obtain ⟨hn, hd⟩ := h.raw_sz hh (by omega)
  have fp := f.raw_pos
  have hp := h.raw_pos
  have HM1 := Lib.hid (fun W => rMul_any f.raw.n h.raw.n W (by omega) (by omega))
  have HM3 := Lib.hid (fun W => rMul_any f.raw.d h.raw.d W (by omega) (by omega))
  have HRD := Lib.hid (fun W => zReduced_any (txtL (val f.raw.n * val h.raw.n)) (txtL (val f.raw.d * val h.raw.d)) W (by have := mul_txt_len fn hn; omega) (by have := mul_txt_len fd hd; omega) (by rw [val_txtL]; exact Int.mul_pos fp hp))
  rw [mul_raw _ _ fp hp, f.raw_rat', h.raw_rat'] at HRD
  have HPO := Lib.hid (show FracPost (frOf (f.rat * h.rat)) w = fun e w' => e = .returned (FrV (frOf (f.rat * h.rat))) ∧ Below w.heap.size w w' from rfl)
  generalize FracPost (frOf (f.rat * h.rat)) w = post at *
  have H3 := Lib.hid (Fr3.new w f h)
  obtain ⟨x0, x1, y0, y1⟩ := H3.out.held
  generalize frOf (f.rat * h.rat) = res at *
  clear fn fd hn hd fp hp
  generalize f.raw = x at *
  generalize h.raw = y at *
  clear hf hh
  unfold FrV at *
  unfold S at *
  go_enter Tryz.func20, Tryz.ntmps20
  go_wp2_with fail
  generalize (((w.alloc (.cells #[.string ⟨f.n.toArray⟩, .string ⟨f.d.toArray⟩] 24)).alloc (.cells #[.string ⟨h.n.toArray⟩, .string ⟨h.d.toArray⟩] 24)).alloc (.cells #[.string ⟨#[]⟩, .string ⟨#[]⟩] 24)) = W0 at *
  refine (HR1.out _).mono ?_
  rintro e w1 ⟨rfl, hb1⟩
  unfold S
  have H4 := Lib.hid (H3.out.here hb1)
  clear x0 x1 y0 y1 HR1 H3
  obtain ⟨x0, x1, y0, y1⟩ := H4.out.held
  go_wp2_with fail
  refine (HR2.out _).mono ?_
  rintro e w2 ⟨rfl, hb2⟩
  unfold S
  have H5 := Lib.hid (H4.out.here hb2)
  clear x0 x1 y0 y1 HR2 H4 hb1 hb2
  go_wp2_with fail
  refine (HM1.out _).mono ?_
  rintro e w3 ⟨rfl, hb⟩
  try unfold S
  have H6 := Lib.hid (H5.out.here hb)
  clear hb H5
  go_wp2_with fail
  refine (HM3.out _).mono ?_
  rintro e w6 ⟨rfl, hb⟩
  try unfold S
  have H8b := Lib.hid (H6.out.here hb)
  clear hb H6
  go_wp2_with fail
  refine (HRD.out _).mono ?_
  rintro e w9 ⟨rfl, hb⟩
  unfold FrV S
  have H9 := Lib.hid (H8b.out.here hb)
  have z0 := H9.out.c.cells.1; have z1 := H9.out.c.cells.2; have f0 := H9.out.c.frozen 0; have f1 := H9.out.c.frozen 1
  go_wp2_with fail
  refine bodyPost_ret (v := .agg #[.string ⟨res.n.toArray⟩, .string ⟨res.d.toArray⟩]) (by simp [results, Tryz.results20, go_sem, z0, z1]) rfl ?_
  rw [HPO.out]
  exact ⟨rfl, (H9.out.bl.setCell (p := ⟨w.heap.size + 1 + 1, 0, none⟩) (by simp only; omega) _).setCell (p := ⟨w.heap.size + 1 + 1, 1, none⟩) (by simp only; omega) _⟩
set_option maxRecDepth 20000 in
set_option maxHeartbeats 1000000 in
theorem zQuo_any (f h : Fr) (w : World) (hf : f.Sz 20000) (hh : h.Sz 20000) : Calls Tryz.prog 21 #[FrV f, FrV h] w (QuoPost (quoL f.rat h.rat) w) := by
  have HR1 := Lib.hid (fun W => zRaw_any f W (hf.more (by omega)))
  have HR2 := Lib.hid (fun W => zRaw_any h W (hh.more (by omega)))
  obtain ⟨fn, fd⟩ := f.raw_sz hf (by omega)
  obtain ⟨hn, hd⟩ := h.raw_sz hh (by omega)
  have fp := f.raw_pos
  have hp := h.raw_pos
  have HM1 := Lib.hid (fun W => rMul_any f.raw.n h.raw.d W (by omega) (by omega))
  have HM3 := Lib.hid (fun W => rMul_any f.raw.d h.raw.n W (by omega) (by omega))
  have HNW := Lib.hid (fun W => zNew_any ⟨txtL (val f.raw.n * val h.raw.d), txtL (val f.raw.d * val h.raw.n)⟩ W ⟨by have := mul_txt_len fn hd; simp only; omega, by have := mul_txt_len fd hn; simp only; omega⟩)
  have HQL := Lib.hid (show newL ⟨txtL (val f.raw.n * val h.raw.d), txtL (val f.raw.d * val h.raw.n)⟩ = quoL f.rat h.rat by
    unfold newL quoL
    simp only
    rw [← f.raw_rat', ← h.raw_rat']
    by_cases h0 : val h.raw.n = 0
    · rw [h0, Int.mul_zero, val_txtL, if_pos rfl, if_pos ((rat_eq_zero _).2 h0)]
    · obtain ⟨q1, q2⟩ := quo_raw f.raw h.raw fp hp h0
      rw [if_neg q2, if_neg (fun h1 => h0 ((rat_eq_zero _).1 h1)), q1])
  rw [HQL.out] at HNW
  have HPO := Lib.hid (show QuoPost (quoL f.rat h.rat) w = fun e w' => e = .returned (.tuple #[FrV (quoL f.rat h.rat).1, .int .i64 (quoL f.rat h.rat).2]) ∧ Below w.heap.size w w' from rfl)
  generalize QuoPost (quoL f.rat h.rat) w = post at *
  have H3 := Lib.hid (Fr3.new w f h)
  obtain ⟨x0, x1, y0, y1⟩ := H3.out.held
  generalize quoL f.rat h.rat = res at *
  clear fn fd hn hd fp hp HQL
  generalize f.raw = x at *
  generalize h.raw = y at *
  clear hf hh
  unfold FrV at *
  unfold S at *
  go_enter Tryz.func21, Tryz.ntmps21
  go_wp2_with fail
  generalize (((w.alloc (.cells #[.string ⟨f.n.toArray⟩, .string ⟨f.d.toArray⟩] 24)).alloc (.cells #[.string ⟨h.n.toArray⟩, .string ⟨h.d.toArray⟩] 24)).alloc (.cells #[.string ⟨#[]⟩, .string ⟨#[]⟩] 24)) = W0 at *
  refine (HR1.out _).mono ?_
  rintro e w1 ⟨rfl, hb1⟩
  unfold S
  have H4 := Lib.hid (H3.out.here hb1)
  clear x0 x1 y0 y1 HR1 H3
  obtain ⟨x0, x1, y0, y1⟩ := H4.out.held
  go_wp2_with fail
  refine (HR2.out _).mono ?_
  rintro e w2 ⟨rfl, hb2⟩
  unfold S
  have H5 := Lib.hid (H4.out.here hb2)
  clear x0 x1 y0 y1 HR2 H4 hb1 hb2
  go_wp2_with fail
  refine (HM1.out _).mono ?_
  rintro e w3 ⟨rfl, hb⟩
  try unfold S
  have H6 := Lib.hid (H5.out.here hb)
  clear hb H5
  go_wp2_with fail
  refine (HM3.out _).mono ?_
  rintro e w6 ⟨rfl, hb⟩
  try unfold S
  have H8b := Lib.hid (H6.out.here hb)
  clear hb H6
  go_wp2_with fail
  refine (HNW.out _).mono ?_
  rintro e w9 ⟨rfl, hb⟩
  unfold FrV S
  have H9 := Lib.hid (H8b.out.here hb)
  have z0 := H9.out.c.cells.1; have z1 := H9.out.c.cells.2; have f0 := H9.out.c.frozen 0; have f1 := H9.out.c.frozen 1
  go_wp2_with fail
  refine bodyPost_ret (v := .tuple #[.agg #[.string ⟨res.1.n.toArray⟩, .string ⟨res.1.d.toArray⟩], .int .i64 res.2]) (by simp [results, Tryz.results21, go_sem, z0, z1]) rfl ?_
  rw [HPO.out]
  exact ⟨rfl, (H9.out.bl.setCell (p := ⟨w.heap.size + 1 + 1, 0, none⟩) (by simp only; omega) _).setCell (p := ⟨w.heap.size + 1 + 1, 1, none⟩) (by simp only; omega) _⟩
set_option maxRecDepth 20000 in
set_option maxHeartbeats 1000000 in
theorem zCompare_any (f h : Fr) (w : World) (hf : f.Sz 20000) (hh : h.Sz 20000) : Calls Tryz.prog 25 #[FrV f, FrV h] w (CmpIPost (cmpR f.rat h.rat) w) := by
  have HR1 := Lib.hid (fun W => zRaw_any f W (hf.more (by omega)))
  have HR2 := Lib.hid (fun W => zRaw_any h W (hh.more (by omega)))
  obtain ⟨fn, fd⟩ := f.raw_sz hf (by omega)
  obtain ⟨hn, hd⟩ := h.raw_sz hh (by omega)
  have fp := f.raw_pos
  have hp := h.raw_pos
  have HM1 := Lib.hid (fun W => rMul_any f.raw.n h.raw.d W (by omega) (by omega))
  have HM3 := Lib.hid (fun W => rMul_any h.raw.n f.raw.d W (by omega) (by omega))
  have HCM := Lib.hid (fun W => rCompare_any (txtL (val f.raw.n * val h.raw.d)) (txtL (val h.raw.n * val f.raw.d)) W (by have := mul_txt_len fn hd; omega) (by have := mul_txt_len hn fd; omega))
  rw [cmp_raw _ _ fp hp, f.raw_rat', h.raw_rat'] at HCM
  have HPO := Lib.hid (show CmpIPost (cmpR f.rat h.rat) w = fun e w' => e = .returned (.int .i64 (cmpR f.rat h.rat)) ∧ Below w.heap.size w w' from rfl)
  generalize CmpIPost (cmpR f.rat h.rat) w = post at *
  have H3 := Lib.hid (Fr2.new w f h)
  obtain ⟨x0, x1, y0, y1⟩ := H3.out.held
  generalize cmpR f.rat h.rat = res at *
  clear fn fd hn hd fp hp
  generalize f.raw = x at *
  generalize h.raw = y at *
  clear hf hh
  unfold FrV at *
  unfold S at *
  go_enter Tryz.func25, Tryz.ntmps25
  go_wp2_with fail
  generalize ((w.alloc (.cells #[.string ⟨f.n.toArray⟩, .string ⟨f.d.toArray⟩] 24)).alloc (.cells #[.string ⟨h.n.toArray⟩, .string ⟨h.d.toArray⟩] 24)) = W0 at *
  refine (HR1.out _).mono ?_
  rintro e w1 ⟨rfl, hb1⟩
  unfold S
  have H4 := Lib.hid (H3.out.here hb1)
  clear x0 x1 y0 y1 HR1 H3
  obtain ⟨x0, x1, y0, y1⟩ := H4.out.held
  go_wp2_with fail
  refine (HR2.out _).mono ?_
  rintro e w2 ⟨rfl, hb2⟩
  unfold S
  have H5 := Lib.hid (H4.out.here hb2)
  clear x0 x1 y0 y1 HR2 H4 hb1 hb2
  go_wp2_with fail
  refine (HM1.out _).mono ?_
  rintro e w3 ⟨rfl, hb⟩
  try unfold S
  have H6 := Lib.hid (H5.out.here hb)
  clear hb H5
  go_wp2_with fail
  refine (HM3.out _).mono ?_
  rintro e w6 ⟨rfl, hb⟩
  try unfold S
  have H8b := Lib.hid (H6.out.here hb)
  clear hb H6
  go_wp2_with fail
  refine (HCM.out _).mono ?_
  rintro e w9 ⟨rfl, rfl⟩
  go_wp2_with fail
  first | go_ret | skip
  rw [HPO.out]
  exact ⟨rfl, H8b.out.bl⟩
end Go.Proofs.YtaiikjgoofefgaaGreatDoor
