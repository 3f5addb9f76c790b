/- Merged texts: Gd, Fp1, Fp2, Fp3. -/
import Derived.Test.YtpnncoinlopndaaGreatDoorQGTn5
import Derived.Test.YtpnncoinlopndaaGreatDoorQGTn3
namespace Go.Proofs.YtpnncoinlopndaaGreatDoor
open Go.RowKit Go.Shelf
attribute [local go_sem] Oper.semAt_some
theorem steps_any (A A' : Option Addr) (n c n' c' : Nat) (w : World) : Calls Tryz.prog 213 #[.slice A n c, .slice A' n' c'] w fun e w' => e = .returned (.func (.func 247) #[] #[.pointer (some ⟨w.heap.size, 0, none⟩), .pointer (some ⟨w.heap.size + 1, 0, none⟩)]) ∧ (w.alloc (.cells #[.slice A n c] 142)).alloc (.cells #[.slice A' n' c'] 142) = w' := by
  go_enter Tryz.func213, Tryz.ntmps213
  go_wp2
  go_ret
  exact ⟨rfl, rfl⟩
theorem fld_mag (W : World) (b : Bool) (A : Option Addr) (n c : Nat) : (Instr.field 144 (.agg #[.bool b, .slice A n c]) 1).run Tryz.prog W = .ok (.slice A n c) W := by
  kernel_rfl
theorem gcd_val (a b : List UInt8) : Nat.gcd (valD (digL a).1) (valD (digL b).1) = Int.gcd (val a) (val b) := by
  unfold Int.gcd val
  split <;> split <;> simp
set_option maxRecDepth 100000 in
set_option maxHeartbeats 1000000 in
theorem Gcd_any (a b : List UInt8) (w : World) (hp : Pow w) (ha : a.length ≤ 100000) (hb : b.length ≤ 100000) : Calls Tryz.prog 187 #[S a, S b] w (StrPost (txtL (Int.gcd (val a) (val b) : Nat)) w) := by
  have HRa := Lib.hid (fun W => read_any a W (by omega))
  have HRb := Lib.hid (fun W => read_any b W (by omega))
  obtain ⟨K, hK⟩ : ∃ K : Nat, K = 100000 := ⟨_, rfl⟩
  have hva := valD_small (show a.length ≤ K by omega)
  have hvb := valD_small (show b.length ≤ K by omega)
  have HK := Lib.hid hK; clear hK
  have HPO := Lib.hid (show StrPost (txtL (Int.gcd (val a) (val b) : Nat)) w = fun e w' => e = .returned (S (txtL (Int.gcd (val a) (val b) : Nat))) ∧ Below w.heap.size w w' from rfl)
  have HGV := Lib.hid (gcd_val a b)
  unfold ReadPost at HRa HRb
  have HVA := Lib.hid hva; have HVB := Lib.hid hvb; have HP := Lib.hid hp
  generalize StrPost (txtL (Int.gcd (val a) (val b) : Nat)) w = post at *
  generalize Int.gcd (val a) (val b) = G at *
  generalize (digL a).2 = na at *
  generalize (digL b).2 = nb at *
  generalize valD (digL a).1 = u at *
  generalize valD (digL b).1 = v at *
  clear ha hb hva hvb hp
  unfold S at *
  refine (callsIn_wide (n := 5)).1 ?_
  refine callsIn_of_wp_marks Tryz.func187 rfl trivial ?_ rfl
  simp only [Tryz.ntmps187, List.size_toArray, List.length_cons, List.length_nil, Nat.reduceAdd, Nat.reduceSub, Array.replicate_succ, Array.replicate_zero, List.push_toArray, List.append_toArray, List.nil_append, List.cons_append]
  gi_wp2_with fail
  refine ⟨trivial, ?_⟩
  have bO0 := Box.new w 142 (.slice none 0 0)
  have hb0 : Below w.heap.size w (w.alloc (.cells #[.slice none 0 0] 142)) := (Below.refl _ _).alloc (Nat.le_refl _) _
  generalize w.alloc (.cells #[.slice none 0 0] 142) = W0 at *
  refine (callsIn_wide.2 (HRa.out W0)).mono ?_
  rintro e w1 ⟨A1, n1, c1, xs, rfl, ho1, mg1, hb1⟩
  have HO1 := Lib.hid ho1; have HM1 := Lib.hid mg1; clear ho1 mg1 HRa
  have hf1 := fld_mag w1 na A1 n1 c1
  gi_wp2_with fail
  refine ⟨trivial, ?_⟩
  refine (callsIn_wide.2 (HRb.out w1)).mono ?_
  rintro e w2 ⟨A2, n2, c2, ys, rfl, ho2, mg2, hb2⟩
  have HO2 := Lib.hid ho2; have HM2 := Lib.hid mg2; clear ho2 mg2 HRb hf1
  have hf2 := fld_mag w2 nb A2 n2 c2
  have HX1 := Lib.hid ((HO1.out.below hb2).sl U1_len)
  have HX2 := Lib.hid (HO2.out.sl U1_len)
  have HL1 := Lib.hid (show n1 ≤ K by rw [HX1.out.1]; exact HM1.out.len HVA.out)
  have HL2 := Lib.hid (show n2 ≤ K by rw [HX2.out.1]; exact HM2.out.len HVB.out)
  have hcap1 : n1 ≤ c1 := by obtain ⟨h1, h2, _⟩ := HO1.out.facts; omega
  have hcap2 : n2 ≤ c2 := by obtain ⟨h1, h2, _⟩ := HO2.out.facts; omega
  have bO2 := (bO0.here hb1).here hb2
  have hb02 := hb0.trans ((hb1.trans (hb2.mono hb1.size)).mono hb0.size)
  have hlt : w.heap.size < w2.heap.size := bO2.lt
  gi_wp2_with fail
  refine ⟨trivial, ?_⟩
  refine (callsIn_wide.2 (steps_any A1 A2 n1 c1 n2 c2 w2)).mono ?_
  rintro e w3 ⟨rfl, rfl⟩
  have hbA : Below w2.heap.size w2 ((w2.alloc (.cells #[.slice A1 n1 c1] 142)).alloc (.cells #[.slice A2 n2 c2] 142)) := ((Below.refl _ _).alloc (Nat.le_refl _) _).alloc (by simp) _
  have bm : Box ((w2.alloc (.cells #[.slice A1 n1 c1] 142)).alloc (.cells #[.slice A2 n2 c2] 142)) w2.heap.size 142 (.slice A1 n1 c1) := (Box.new w2 _ _).alloc _
  have bn : Box ((w2.alloc (.cells #[.slice A1 n1 c1] 142)).alloc (.cells #[.slice A2 n2 c2] 142)) (w2.heap.size + 1) 142 (.slice A2 n2 c2) := by
    have := Box.new (w2.alloc (.cells #[.slice A1 n1 c1] 142)) 142 (.slice A2 n2 c2)
    simpa using this
  have bO3 := bO2.here hbA
  have HE := Lib.hid (show EuSt G w2.heap.size (w2.heap.size + 1) A1 A2 n1 c1 n2 c2 xs ys u v _ from ⟨bm, bn, HX1.out.here hbA, HX2.out.here hbA, HM1.out, HM2.out, HGV.out, by have := HL1.out; have := HK.out; omega, by have := HL2.out; have := HK.out; omega, hcap1, hcap2⟩)
  have hb03 := hb02.trans (hbA.mono hb02.size)
  have hsz3 : w2.heap.size + 2 = ((w2.alloc (.cells #[.slice A1 n1 c1] 142)).alloc (.cells #[.slice A2 n2 c2] 142)).heap.size := by simp
  clear bm bn hbA HX1 HX2 HO1 HO2 hb1 hb2 bO0 bO2 hb0 hb02
  gi_wp2_with fail
  generalize (w2.alloc (.cells #[.slice A1 n1 c1] 142)).alloc (.cells #[.slice A2 n2 c2] 142) = W3 at *
  have HSZ := Lib.hid hsz3; clear hsz3 hf2
  have h3 := HSZ.out
  refine wpIn_rangeFunc_last (F := Fence.wide) (n := 5) rfl (by omega) (gf := 247) (lb := #[.pointer (some ⟨w2.heap.size, 0, none⟩), .pointer (some ⟨w2.heap.size + 1, 0, none⟩)]) rfl trivial (enters_of Tryz.func247 (by kernel_rfl) rfl)
    w.heap.size (by omega) (Kp2 w2.heap.size (w2.heap.size + 1)) (EuT G) (fun A B h b hb1 hb2 => h.2 b hb2 (by omega) (by omega)) (.slice none 0 0) ?hseq rfl
    (fun s W => Box W w.heap.size 142 s ∧ (∃ B m c, s = .slice B m c) ∧ Below w.heap.size w W)
    (fun s A B ⟨h1, h2, h3⟩ hk => ⟨hk.box h1 (by omega) (by omega), h2, hk.under h3 (by have := h3.size; omega) (by omega) (by omega)⟩)
    (fun s A ⟨h1, h2, _⟩ => ⟨_, s, h1, h2⟩)
    (fun s A B l hl ⟨h1, h2, h3⟩ hk => ⟨hk.box h1 (by omega) (by omega), h2, hk.under h3 (by have := h3.size; omega) (by omega) (by omega)⟩)
    ⟨bO3, ⟨_, _, _, rfl⟩, hb03⟩
    (fun x y => { tmps := #[.string ⟨a.toArray⟩, .string ⟨b.toArray⟩, undef, undef, .string ⟨#[]⟩, .pointer (some ⟨w.heap.size, 0, none⟩), x, .string ⟨a.toArray⟩, .agg #[.bool na, .slice A1 n1 c1], .slice A1 n1 c1, .string ⟨b.toArray⟩, .agg #[.bool nb, .slice A2 n2 c2], .slice A2 n2 c2, .func (.func 247) #[] #[.pointer (some ⟨w2.heap.size, 0, none⟩), .pointer (some ⟨w2.heap.size + 1, 0, none⟩)], x, y, undef, undef, undef, undef], defers := [] })
    ?assign ?body ?done
  case hseq =>
    intro l J W hl hbW hJi hJl hJb hY h0
    have hE := HE.out.here hbW
    exact steps1_in 4 (by omega) G l w.heap.size w2.heap.size (w2.heap.size + 1) J (by omega) (by omega) (by omega) (by omega) (by omega) hJi hJl hJb hY (.slice none 0 0) W h0 A1 A2 n1 c1 n2 c2 xs ys u v hE
  case assign =>
    intro l x y W K hK
    gi_wp2
    exact hK
  case body =>
    rintro l s B m c y W hl ⟨hbx, hs, hbl⟩
    have c0 := hbx.cell
    have f0 := hbx.frozen
    gi_wp2
    exact ⟨(Kp2.refl w.heap.size w.heap.size W).set1 0 _, hbx.set_ _, hbl.setCell (p := ⟨w.heap.size, 0, none⟩) (Nat.le_refl _) _⟩
  case done =>
    rintro D s W W0 hD ⟨hbx, hs, hbl⟩ ⟨A5, n5, c5, zs, rfl, hg5, mg5, hc5, hn5⟩ hk ⟨r, hr⟩ hK
    have c0 := hbx.cell
    have hg := hg5.kp2 hk (fun o x => loop_notU hr o x) (fun o x => loop_notU hr o x)
    have HTX := Lib.hid (text_any false A5 n5 c5 zs W hg mg5.gs hc5 (by omega) (HP.out.here hbl))
    rw [mg5.val, numT_sv, show sv false G = (G : Int) from rfl] at HTX
    unfold S at HTX
    clear hg hg5 mg5 h3
    gi_wp2_with fail
    refine ⟨trivial, ?_⟩
    refine (callsIn_wide.2 HTX.out).mono ?_
    rintro e w6 ⟨rfl, hb6⟩
    have hK6 : w6.heap[D]? = some (.deferred (some [])) := (hb6.block D (Array.getElem?_eq_some_iff.1 hK).1).trans hK
    have hb06 := hbl.trans (hb6.mono hbl.size)
    gi_wp2
    refine ⟨by simp, .inl ⟨_, _, rfl, run_takeDeferred hK6, ?_⟩⟩
    refine ⟨_, results_tmp rfl _ _ _, ?_⟩
    rw [HPO.out]
    refine ⟨rfl, ?_⟩
    exact hb06.grown (grownBy_putObj' w6 D (.deferred none)) (by have := hb06.size; omega) (fun r e => by cases e; have := HSZ.out; omega)
end Go.Proofs.YtpnncoinlopndaaGreatDoor

namespace Go.Proofs.YtpnncoinlopndaaGreatDoor
open Go.RowKit Go.Shelf
def FrV (f : Fr) : Value := .agg #[S f.n, S f.d]
def FrB (w : World) (p : Nat) (f : Fr) : Prop := w.heap[p]? = some (.cells #[S f.n, S f.d] 26 (0, 0))
section
variable {w w' : World} {p : Nat} {f : Fr}
theorem FrB.lt (h : FrB w p f) : p < w.heap.size := (Array.getElem?_eq_some_iff.1 h).1
theorem FrB.cells (h : FrB w p f) : w.cell? ⟨p, 0, none⟩ = some (.string ⟨f.n.toArray⟩) ∧ w.cell? ⟨p, 1, none⟩ = some (.string ⟨f.d.toArray⟩) :=
  ⟨cell_of_row w p 0 _ 26 (0, 0) h, cell_of_row w p 1 _ 26 (0, 0) h⟩
theorem FrB.frozen (h : FrB w p f) (j : Nat) : w.frozen? ⟨p, j, none⟩ = false := by
  unfold FrB at h
  simp [World.frozen?, h]
theorem FrB.below {N : Nat} (h : FrB w p f) (hb : Below N w w') (hg : p < N) : FrB w' p f := (hb.block p hg).trans h
theorem FrB.here (h : FrB w p f) (hb : Below w.heap.size w w') : FrB w' p f := h.below hb h.lt
theorem FrB.new (w : World) (f : Fr) : FrB (w.alloc (.cells #[.string ⟨f.n.toArray⟩, .string ⟨f.d.toArray⟩] 26)) w.heap.size f := heap_alloc_new w _
theorem FrB.alloc (h : FrB w p f) (o : Obj) : FrB (w.alloc o) p f := (Below.heap_alloc w o p h.lt).trans h
theorem FrB.far (h : FrB w p f) {a : Addr} (hp : p ≠ a.block) (u : Value) : FrB (w.setCell a u) p f := (Below.heap_setCell w a u p hp).trans h
end
def FracPost (f : Fr) (w : World) (e : Ending) (w' : World) : Prop := e = .returned (FrV f) ∧ Below w.heap.size w w'
def TwoPost (x y : List UInt8) (w : World) (e : Ending) (w' : World) : Prop := e = .returned (.tuple #[S x, S y]) ∧ Below w.heap.size w w'
theorem Div3_ok {a b : Int} (hb : b ≠ 0) {w w' : World} {e : Ending} (h : Div3Post a b w e w') : e = .returned (.tuple #[.string ⟨(txtL (a.fdiv b)).toArray⟩, .string ⟨(txtL (a.fmod b)).toArray⟩, .int .i64 0]) ∧ Below w.heap.size w w' := by
  unfold Div3Post at h
  rw [if_neg hb] at h
  exact h
theorem gcd_len (n : Int) {d : List UInt8} (hd : val d ≠ 0) : (txtL (Int.gcd n (val d) : Nat)).length ≤ d.length + 1 := by
  refine txtL_length ?_
  have h1 := val_lt d
  have h2 : Int.gcd n (val d) ≤ (val d).natAbs := Nat.le_of_dvd (by omega) (Nat.gcd_dvd_right _ _)
  simp
  omega
set_option maxRecDepth 20000 in
set_option maxHeartbeats 1000000 in
theorem reduced_any (n d : List UInt8) (w : World) (hp : Pow w) (hn : n.length ≤ 50000) (hd : d.length ≤ 50000) (hd0 : val d ≠ 0) :
    Calls Tryz.prog 144 #[S n, S d] w (TwoPost (txtL (Rat.divInt (val n) (val d)).num) (txtL (Rat.divInt (val n) (val d)).den) w) := by
  have HCM := Lib.hid (Compare_any d [] w (by omega) (by simp))
  rw [show val ([] : List UInt8) = 0 from val_nil, Int.sub_zero] at HCM
  have HPO := Lib.hid (show TwoPost (txtL (Rat.divInt (val n) (val d)).num) (txtL (Rat.divInt (val n) (val d)).den) w = fun e w' => e = .returned (.tuple #[S (txtL (Rat.divInt (val n) (val d)).num), S (txtL (Rat.divInt (val n) (val d)).den)]) ∧ Below w.heap.size w w' from rfl)
  have HN := Lib.hid hn; have HD := Lib.hid hd; have HP := Lib.hid hp
  have HNEG := Lib.hid (Rat.neg_divInt_neg (val n) (val d))
  generalize TwoPost (txtL (Rat.divInt (val n) (val d)).num) (txtL (Rat.divInt (val n) (val d)).den) w = post at *
  generalize hq : Rat.divInt (val n) (val d) = q at *
  have HQ := Lib.hid hq
  clear hn hd hp hq
  unfold S at *
  go_enter Tryz.func144, Tryz.ntmps144
  go_wp2_with fail
  refine HCM.out.mono ?_
  rintro e w1 ⟨rfl, hb1⟩
  go_upto_if 9 with (fail)
  go_cut [0, 1] (fun s t wc => ∃ n1 d1 : List UInt8, s = .string ⟨n1.toArray⟩ ∧ t = .string ⟨d1.toArray⟩ ∧ Hid (0 < val d1) ∧ Hid (Rat.divInt (val n1) (val d1) = q) ∧ Hid (n1.length ≤ 50001) ∧ Hid (d1.length ≤ 50001) ∧ Below w.heap.size w wc)
  case first =>
    by_cases hneg : val d < 0
    · have hs : sgnI (val d) = -1 := by unfold sgnI; rw [if_pos hneg]
      have HNA := Lib.hid (Neg_any n w1 (HP.out.here hb1) (by have := HN.out; omega))
      have HND := Lib.hid (fun W (hb : Below w1.heap.size w1 W) => Neg_any d W ((HP.out.here hb1).here hb) (by have := HD.out; omega))
      unfold S at HNA HND
      rw [hs]
      go_wp2_with fail
      refine HNA.out.mono ?_
      rintro e w2 ⟨rfl, hb2⟩
      go_wp2_with fail
      refine (HND.out w2 hb2).mono ?_
      rintro e w3 ⟨rfl, hb3⟩
      have hb13 := hb1.trans ((hb2.trans (hb3.mono hb2.size)).mono hb1.size)
      go_wp2_with fail
      go_meet
      refine ⟨txtL (-val n), txtL (-val d), rfl, rfl, ?_, ?_, ?_, ?_, hb13⟩
      · show _ < _; rw [val_txtL]; omega
      · show _ = _; rw [val_txtL, val_txtL, HNEG.out]
      · show _ ≤ _; have := HN.out; have := txtL_length (n := -val n) (L := n.length) (by have := val_lt n; omega); omega
      · show _ ≤ _; have := HD.out; have := txtL_length (n := -val d) (L := d.length) (by have := val_lt d; omega); omega
    · have hs : sgnI (val d) = 1 := by unfold sgnI; rw [if_neg hneg, if_pos (by omega)]
      rw [hs]
      go_wp2_with fail
      go_meet
      exact ⟨n, d, rfl, rfl, by show _ < _; omega, HQ, by show _ ≤ _; have := HN.out; omega, by show _ ≤ _; have := HD.out; omega, hb1⟩
  case rest =>
  clear HNEG HCM HQ HN HD hb1
  obtain ⟨n1, d1, rfl, rfl, H0, HQ, HN, HD, hb1⟩ := hcut
  obtain ⟨w2, rfl⟩ : ∃ W, W = wc := ⟨_, rfl⟩
  have HGC := Lib.hid (Gcd_any n1 d1 w2 (HP.out.here hb1) (by have := HN.out; omega) (by have := HD.out; omega))
  have HGL := Lib.hid (gcd_len (val n1) (d := d1) (by have := H0.out; omega))
  have HGP := Lib.hid (gcd_pos (val n1) (val d1) (by have := H0.out; omega))
  have HR1 := Lib.hid (red_num (val n1) (val d1) H0.out)
  have HR2 := Lib.hid (red_den (val n1) (val d1) H0.out)
  rw [HQ.out] at HR1 HR2
  generalize Int.gcd (val n1) (val d1) = g at *
  have HV1 := Lib.hid (fun W (hb : Below w2.heap.size w2 W) => Div_any n1 (txtL (g : Int)) W ((HP.out.here hb1).here hb) (by have := HN.out; omega) (by have := HGL.out; have := HD.out; omega))
  have HV2 := Lib.hid (fun W (hb : Below w2.heap.size w2 W) => Div_any d1 (txtL (g : Int)) W ((HP.out.here hb1).here hb) (by have := HD.out; omega) (by have := HGL.out; have := HD.out; omega))
  rw [val_txtL] at HV1 HV2
  unfold S at HGC HV1 HV2
  go_wp2_with fail
  refine HGC.out.mono ?_
  rintro e w3 ⟨rfl, hb3⟩
  go_wp2_with fail
  refine (HV1.out w3 hb3).mono ?_
  intro e w4 h4
  obtain ⟨rfl, hb4⟩ := Div3_ok (by have := HGP.out; omega) h4
  have hb34 := hb3.trans (hb4.mono hb3.size)
  clear h4
  rw [HR1.out]
  go_wp2_with fail
  refine (HV2.out w4 hb34).mono ?_
  intro e w5 h5
  obtain ⟨rfl, hb5⟩ := Div3_ok (by have := HGP.out; omega) h5
  have hb35 := hb34.trans (hb5.mono hb34.size)
  clear h5
  rw [HR2.out]
  go_wp2_with fail
  rw [HPO.out]
  exact ⟨rfl, hb1.trans (hb35.mono hb1.size)⟩
end Go.Proofs.YtpnncoinlopndaaGreatDoor

namespace Go.Proofs.YtpnncoinlopndaaGreatDoor
open Go.RowKit Go.Shelf
theorem one_txt : txtL 1 = [49] := by
  rw [show (1 : Int) = ((1 : Nat) : Int) from rfl, txtL_nat]
  unfold digs
  rw [if_neg (by omega), Lib.decDigits, dif_pos (by omega)]
  decide
theorem one_val : val [49] = 1 := by rw [← one_txt, val_txtL]
set_option maxRecDepth 20000 in
set_option maxHeartbeats 1000000 in
theorem made_any (n d : List UInt8) (w : World) (hp : Pow w) (hn : n.length ≤ 50000) (hd : d.length ≤ 50000) (hd0 : val d ≠ 0) :
    Calls Tryz.prog 100 #[S n, S d] w (FracPost (frOf (Rat.divInt (val n) (val d))) w) := by
  have hbA : Below w.heap.size w (w.alloc (.cells #[.string ⟨#[]⟩, .string ⟨#[]⟩] 26)) := (Below.refl _ _).alloc (Nat.le_refl _) _
  have HRD := Lib.hid (reduced_any n d (w.alloc (.cells #[.string ⟨#[]⟩, .string ⟨#[]⟩] 26)) (hp.here hbA) hn hd hd0)
  have HPO := Lib.hid (show FracPost (frOf (Rat.divInt (val n) (val d))) w = fun e w' => e = .returned (FrV (frOf (Rat.divInt (val n) (val d)))) ∧ Below w.heap.size w w' from rfl)
  have HB := Lib.hid (show FrB (w.alloc (.cells #[.string ⟨#[]⟩, .string ⟨#[]⟩] 26)) w.heap.size Fr.zero from FrB.new w Fr.zero)
  have HBA := Lib.hid hbA
  generalize FracPost (frOf (Rat.divInt (val n) (val d))) w = post at *
  generalize Rat.divInt (val n) (val d) = q at *
  clear hn hd hp hd0 hbA
  unfold S at *
  go_enter Tryz.func100, Tryz.ntmps100
  go_wp2_with fail
  generalize w.alloc (.cells #[.string ⟨#[]⟩, .string ⟨#[]⟩] 26) = W at *
  refine HRD.out.mono ?_
  rintro e w1 ⟨rfl, hb1⟩
  unfold S
  have HB1 := Lib.hid (HB.out.here hb1)
  obtain ⟨c0, c1⟩ := HB1.out.cells
  have f0 := HB1.out.frozen 0; have f1 := HB1.out.frozen 1
  have hb01 := HBA.out.trans (hb1.mono HBA.out.size)
  by_cases h1 : q.den = 1
  · have HF := Lib.hid (show FrV (frOf q) = .agg #[.string ⟨(txtL q.num).toArray⟩, .string ⟨#[]⟩] by unfold FrV frOf; simp only [if_pos h1]; rfl)
    rw [show txtL (q.den : Int) = [49] by rw [h1]; exact one_txt]
    clear h1
    go_wp2_with fail
    refine bodyPost_ret (v := .agg #[.string ⟨(txtL q.num).toArray⟩, .string ⟨#[]⟩]) (by simp [results, Tryz.results100, go_sem, c0, c1]) rfl ?_
    rw [HPO.out, HF.out]
    exact ⟨rfl, (hb01.setCell (p := ⟨w.heap.size, 0, none⟩) (Nat.le_refl _) _).setCell (p := ⟨w.heap.size, 1, none⟩) (Nat.le_refl _) _⟩
  · have HF := Lib.hid (show FrV (frOf q) = .agg #[.string ⟨(txtL q.num).toArray⟩, .string ⟨(txtL q.den).toArray⟩] by unfold FrV frOf; simp only [if_neg h1]; rfl)
    have hne : (txtL (q.den : Int) == [49]) = false := by
      rw [Bool.eq_false_iff]
      intro h
      have h := eq_of_beq h
      exact h1 (by rw [← one_txt] at h; have := txtL_inj h; omega)
    clear h1
    generalize txtL (q.den : Int) = t at *
    go_wp2_with fail
    refine bodyPost_ret (v := .agg #[.string ⟨(txtL q.num).toArray⟩, .string ⟨t.toArray⟩]) (by simp [results, Tryz.results100, go_sem, c0, c1]) rfl ?_
    rw [HPO.out, HF.out]
    exact ⟨rfl, (hb01.setCell (p := ⟨w.heap.size, 0, none⟩) (Nat.le_refl _) _).setCell (p := ⟨w.heap.size, 1, none⟩) (Nat.le_refl _) _⟩
def Fr.dt (f : Fr) : List UInt8 := if val f.d = 0 then [49] else f.d
theorem Fr.val_dt (f : Fr) : val f.dt = f.dv := by
  unfold Fr.dt Fr.dv
  split
  · exact one_val
  · rfl
theorem Fr.dt_len {f : Fr} {L : Nat} (h : f.d.length ≤ L) (hL : 1 ≤ L) : f.dt.length ≤ L := by
  unfold Fr.dt
  split
  · exact hL
  · exact h
set_option maxRecDepth 20000 in
set_option maxHeartbeats 1000000 in
theorem parts_any (f : Fr) (w : World) (hd : f.d.length ≤ 100000) : Calls Tryz.prog 101 #[FrV f] w (TwoPost f.n f.dt w) := by
  have hbA : Below w.heap.size w (w.alloc (.cells #[.string ⟨f.n.toArray⟩, .string ⟨f.d.toArray⟩] 26)) := (Below.refl _ _).alloc (Nat.le_refl _) _
  have HCM := Lib.hid (Compare_any f.d [] (w.alloc (.cells #[.string ⟨f.n.toArray⟩, .string ⟨f.d.toArray⟩] 26)) hd (by simp))
  rw [show val ([] : List UInt8) = 0 from val_nil, Int.sub_zero] at HCM
  have HPO := Lib.hid (show TwoPost f.n f.dt w = fun e w' => e = .returned (.tuple #[S f.n, S f.dt]) ∧ Below w.heap.size w w' from rfl)
  have HB := Lib.hid (FrB.new w f)
  have HBA := Lib.hid hbA
  generalize TwoPost f.n f.dt w = post at *
  obtain ⟨c0, c1⟩ := HB.out.cells
  clear hbA hd
  unfold S FrV at *
  unfold S
  go_enter Tryz.func101, Tryz.ntmps101
  go_wp2_with fail
  generalize w.alloc (.cells #[.string ⟨f.n.toArray⟩, .string ⟨f.d.toArray⟩] 26) = W at *
  refine HCM.out.mono ?_
  rintro e w1 ⟨rfl, hb1⟩
  have HB1 := Lib.hid (HB.out.here hb1)
  clear c0 c1
  obtain ⟨c0, c1⟩ := HB1.out.cells
  have hb01 := HBA.out.trans (hb1.mono HBA.out.size)
  by_cases h0 : val f.d = 0
  · have hs : (sgnI (val f.d) == 0) = true := by rw [h0]; rfl
    rw [show f.dt = [49] by unfold Fr.dt; rw [if_pos h0]] at HPO
    clear h0
    go_wp2_with fail
    rw [HPO.out]
    exact ⟨rfl, hb01⟩
  · have hs : (sgnI (val f.d) == 0) = false := by unfold sgnI; (repeat' split) <;> simp <;> omega
    rw [show f.dt = f.d by unfold Fr.dt; rw [if_neg h0]] at HPO
    clear h0
    go_wp2_with fail
    go_quiet (fail)
    go_wp2_with fail
    rw [HPO.out]
    exact ⟨rfl, bdN hb01 _⟩
end Go.Proofs.YtpnncoinlopndaaGreatDoor

namespace Go.Proofs.YtpnncoinlopndaaGreatDoor
open Go.RowKit Go.Shelf
structure FOp (g : Nat) (F : Int → Int → Int → Int → Int × Int) : Prop where
  enters : ∀ args w, (callFunc g args).run Tryz.prog w = .ok (.enter g args) w
  calls : ∀ (a b c d : List UInt8) (p : Nat) (W : World), p < W.heap.size → W.cell? ⟨p, 0, none⟩ = some (.func (.func 148) #[] #[]) → Pow W → a.length ≤ 20000 → b.length ≤ 20000 → c.length ≤ 20000 → d.length ≤ 20000 →
    Calls Tryz.prog g #[S a, S b, S c, S d, .pointer (some ⟨p, 0, none⟩)] W (TwoPost (txtL (F (val a) (val b) (val c) (val d)).1) (txtL (F (val a) (val b) (val c) (val d)).2) W)
theorem mul_len {a b : List UInt8} {L : Nat} (ha : a.length ≤ L) (hb : b.length ≤ L) : (txtL (val a * val b)).length ≤ L + L + 1 := txtL_length (mul_lt_pow (val_lt' ha) (val_lt' hb))
set_option maxRecDepth 20000 in
set_option maxHeartbeats 1000000 in
theorem fop2 : FOp 150 (fun a b c d => (a * d - c * b, b * d)) := ⟨enters_of Tryz.func150 (by kernel_rfl) rfl, fun a b c d p w hp0 hc hp ha hb hcl hd => by
  have HP := Lib.hid hp; have HC := Lib.hid hc
  have HM0 := Lib.hid (fun W (hb : Below w.heap.size w W) => Mul_any a d W (HP.out.here hb) (by omega) (by omega))
  have HM1 := Lib.hid (fun W (hb : Below w.heap.size w W) => Mul_any c b W (HP.out.here hb) (by omega) (by omega))
  have HM2 := Lib.hid (fun W (hb : Below w.heap.size w W) => Mul_any b d W (HP.out.here hb) (by omega) (by omega))
  have HA := Lib.hid (fun W (hb : Below w.heap.size w W) => Sub_any (txtL (val a * val d)) (txtL (val c * val b)) W (HP.out.here hb) (by have := mul_len (a := a) (b := d) (L := 20000) (by omega) (by omega); omega) (by have := mul_len (a := c) (b := b) (L := 20000) (by omega) (by omega); omega))
  rw [val_txtL, val_txtL] at HA
  have HPO := Lib.hid (show TwoPost (txtL (val a * val d - val c * val b)) (txtL (val b * val d)) w = fun e w' => e = .returned (.tuple #[S (txtL (val a * val d - val c * val b)), S (txtL (val b * val d))]) ∧ Below w.heap.size w w' from rfl)
  show Calls _ _ _ _ (TwoPost (txtL (val a * val d - val c * val b)) (txtL (val b * val d)) w)
  generalize TwoPost (txtL (val a * val d - val c * val b)) (txtL (val b * val d)) w = post at *
  clear hp hc ha hb hcl hd
  have c0 := HC.out
  have em : ∀ args w, (callFunc 148 args).run Tryz.prog w = .ok (.enter 148 args) w := enters_of Tryz.func148 (by kernel_rfl) rfl
  unfold S at *
  go_enter Tryz.func150, Tryz.ntmps150
  go_wp2_with fail
  go_region_held3 (fun w' => w'.cell? ⟨p, 0, none⟩ = some (.func (.func 148) #[] #[]))
    (first
      | go_keep
      | exact (hz0.cell (p := ⟨p, 0, none⟩) hp0).trans HC.out
      | exact (hz1.cell (p := ⟨p, 0, none⟩) hp0).trans HC.out
      | exact (hz2.cell (p := ⟨p, 0, none⟩) hp0).trans HC.out
      | exact (hz3.cell (p := ⟨p, 0, none⟩) hp0).trans HC.out)
    (first
      | (go_at_call_of 148 (Value.string ⟨a.toArray⟩); refine (HM0.out _ ((Below.refl _ w).drew)).mono ?_; rintro e w0 ⟨rfl, hb0⟩; have hz0 : Below w.heap.size w w0 := ((Below.refl _ w).drew).trans (hb0.mono (by first | exact Nat.le_refl _ | exact ((Below.refl _ w).drew).size)))
      | (go_at_call_of 148 (Value.string ⟨c.toArray⟩); refine (HM1.out _ (hz0)).mono ?_; rintro e w1 ⟨rfl, hb1⟩; have hz1 : Below w.heap.size w w1 := (hz0).trans (hb1.mono (by first | exact Nat.le_refl _ | exact (hz0).size)))
      | (go_at_call 67; refine (HA.out _ (hz1)).mono ?_; rintro e w2 ⟨rfl, hb2⟩; have hz2 : Below w.heap.size w w2 := (hz1).trans (hb2.mono (by exact (hz1).size)))
      | (go_at_call_of 148 (Value.string ⟨b.toArray⟩); refine (HM2.out _ (hz2)).mono ?_; rintro e w3 ⟨rfl, hb3⟩; have hz3 : Below w.heap.size w w3 := (hz2).trans (hb3.mono (by first | exact Nat.le_refl _ | exact (hz2).size))))
  all_goals
    go_wp2_with fail
    rw [HPO.out]
    exact ⟨rfl, hz3⟩⟩
set_option maxRecDepth 20000 in
set_option maxHeartbeats 1000000 in
theorem fop3 : FOp 151 (fun a b c d => (a * c, b * d)) := ⟨enters_of Tryz.func151 (by kernel_rfl) rfl, fun a b c d p w hp0 hc hp ha hb hcl hd => by
  have HP := Lib.hid hp; have HC := Lib.hid hc
  have HM0 := Lib.hid (fun W (hb : Below w.heap.size w W) => Mul_any a c W (HP.out.here hb) (by omega) (by omega))
  have HM1 := Lib.hid (fun W (hb : Below w.heap.size w W) => Mul_any b d W (HP.out.here hb) (by omega) (by omega))
  have HPO := Lib.hid (show TwoPost (txtL (val a * val c)) (txtL (val b * val d)) w = fun e w' => e = .returned (.tuple #[S (txtL (val a * val c)), S (txtL (val b * val d))]) ∧ Below w.heap.size w w' from rfl)
  show Calls _ _ _ _ (TwoPost (txtL (val a * val c)) (txtL (val b * val d)) w)
  generalize TwoPost (txtL (val a * val c)) (txtL (val b * val d)) w = post at *
  clear hp hc ha hb hcl hd
  have c0 := HC.out
  have em : ∀ args w, (callFunc 148 args).run Tryz.prog w = .ok (.enter 148 args) w := enters_of Tryz.func148 (by kernel_rfl) rfl
  unfold S at *
  go_enter Tryz.func151, Tryz.ntmps151
  go_wp2_with fail
  go_region_held3 (fun w' => w'.cell? ⟨p, 0, none⟩ = some (.func (.func 148) #[] #[]))
    (first
      | go_keep
      | exact (hz0.cell (p := ⟨p, 0, none⟩) hp0).trans HC.out
      | exact (hz1.cell (p := ⟨p, 0, none⟩) hp0).trans HC.out)
    (first
      | (go_at_call_of 148 (Value.string ⟨a.toArray⟩); refine (HM0.out _ ((Below.refl _ w).drew)).mono ?_; rintro e w0 ⟨rfl, hb0⟩; have hz0 : Below w.heap.size w w0 := ((Below.refl _ w).drew).trans (hb0.mono (by first | exact Nat.le_refl _ | exact ((Below.refl _ w).drew).size)))
      | (go_at_call_of 148 (Value.string ⟨b.toArray⟩); refine (HM1.out _ (hz0)).mono ?_; rintro e w1 ⟨rfl, hb1⟩; have hz1 : Below w.heap.size w w1 := (hz0).trans (hb1.mono (by first | exact Nat.le_refl _ | exact (hz0).size))))
  all_goals
    go_wp2_with fail
    rw [HPO.out]
    exact ⟨rfl, hz1⟩⟩
end Go.Proofs.YtpnncoinlopndaaGreatDoor

