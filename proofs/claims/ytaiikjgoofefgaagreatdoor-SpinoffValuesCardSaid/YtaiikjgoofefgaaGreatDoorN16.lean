/- Contracts of integer's magnitude.divide, Mul, Neg, Compare. -/
import Derived.Test.YtaiikjgoofefgaaGreatDoorN15
import Derived.Test.YtaiikjgoofefgaaGreatDoorN10
import Derived.Test.YtaiikjgoofefgaaGreatDoorFR
import Derived.Deep.RegionHeld3
namespace Go.Proofs.YtaiikjgoofefgaaGreatDoor
open Go.RowKit Go.Shelf

theorem divide_any (A A' : Option Addr) (n m c c' : Nat) (xs ys : List Nat) (u v : Nat) (w : World) (hx : Gr w w.heap.size A n xs) (hy : Gr w w.heap.size A' m ys) (mx : Mag xs u) (my : Mag ys v) (hn : n ≤ 100000) (hm : m ≤ 100000) (hc : n ≤ c) (hv : 0 < v) :
    Calls Tryz.prog 95 #[.slice A n c, .slice A' m c'] w (DivPost (u / v) (u % v) w) := by
  rcases Nat.lt_or_ge u v with h | h
  · exact divide_less A A' n m c c' xs ys u v w hx hy mx my (by omega) (by omega) hc h
  · match m, hy, hm with
    | 0, hy, _ =>
      have := my.nil_iff.1 (List.eq_nil_of_length_eq_zero hy.1.symm)
      omega
    | 1, hy, _ => exact divide_one A A' n c c' xs ys u v w hx hy mx my (by omega) h
    | m + 2, hy, hm => exact divide_many A A' n (m + 2) c c' xs ys u v w hx hy mx my hn hm (by omega) h
theorem sv_mul (a b : Bool) (u v : Nat) : sv (a != b) (u * v) = sv a u * sv b v := by
  cases a <;> cases b <;> simp [sv, Int.neg_mul, Int.mul_neg]
set_option maxRecDepth 20000 in
set_option maxHeartbeats 600000 in
theorem Mul_any (a b : List UInt8) (w : World) (hp : Pow w) (ha : a.length ≤ 100000) (hb : b.length ≤ 100000) : Calls Tryz.prog 43 #[S a, S b] w (StrPost (txtL (val a * val b)) w) := by
  have HRa := Lib.hid (read_any a w (by omega))
  have HRb := Lib.hid (fun W => read_any b W (by omega))
  obtain ⟨K, hK⟩ : ∃ K : Nat, K = 100000 := ⟨_, rfl⟩
  have hva := valD_small (show a.length ≤ K by omega)
  have hvb := valD_small (show b.length ≤ K by omega)
  have HK := Lib.hid hK; clear hK
  have HS := Lib.hid (show sv ((digL a).2 != (digL b).2) (valD (digL a).1 * valD (digL b).1) = val a * val b by rw [sv_mul, sv_val, sv_val])
  have HPO := Lib.hid (show StrPost (txtL (val a * val b)) w = fun e w' => e = .returned (S (txtL (val a * val b))) ∧ Below w.heap.size w w' from rfl)
  unfold ReadPost at HRa HRb
  have HVA := Lib.hid hva; have HVB := Lib.hid hvb; have HP := Lib.hid hp
  generalize StrPost (txtL (val a * val b)) w = post at *
  generalize (digL a).2 = na at *
  generalize (digL b).2 = nb at *
  generalize valD (digL a).1 = u at *
  generalize valD (digL b).1 = v at *
  have HUV := Lib.hid (show u * v < 1000000000 ^ (K + K) by rw [Nat.pow_add]; exact Nat.mul_lt_mul'' hva hvb)
  clear ha hb hva hvb hp
  unfold S at *
  go_enter Tryz.func43, Tryz.ntmps43
  go_wp2_with fail
  refine HRa.out.mono ?_
  rintro e w1 ⟨A1, n1, c1, xs, rfl, ho1, mg1, hb1⟩
  have HO1 := Lib.hid ho1; have HM1 := Lib.hid mg1; clear ho1 mg1 HRa
  go_wp2_with fail
  refine (HRb.out _).mono ?_
  rintro e w2 ⟨A2, n2, c2, ys, rfl, ho2, mg2, hb2⟩
  have HO2 := Lib.hid ho2; have HM2 := Lib.hid mg2; clear ho2 mg2 HRb
  have HX1 := Lib.hid ((HO1.out.below hb2).sl U1_len)
  have HX2 := Lib.hid (HO2.out.sl U1_len)
  have HL1 := Lib.hid (show n1 ≤ K by rw [HX1.out.1]; exact HM1.out.len HVA.out)
  have HL2 := Lib.hid (show n2 ≤ K by rw [HX2.out.1]; exact HM2.out.len HVB.out)
  have hb02 := hb1.trans (hb2.mono hb1.size)
  go_wp2_with fail
  have hN1 : NumB ((w2.alloc (.cells #[.bool na, .slice A1 n1 c1] 57)).alloc (.cells #[.bool nb, .slice A2 n2 c2] 57)) w2.heap.size na A1 n1 c1 := (NumB.new w2 na A1 n1 c1).alloc _
  have hN2 : NumB ((w2.alloc (.cells #[.bool na, .slice A1 n1 c1] 57)).alloc (.cells #[.bool nb, .slice A2 n2 c2] 57)) (w2.heap.size + 1) nb A2 n2 c2 := by
    have := NumB.new (w2.alloc (.cells #[.bool na, .slice A1 n1 c1] 57)) nb A2 n2 c2
    simpa using this
  have hbA : Below w2.heap.size w2 ((w2.alloc (.cells #[.bool na, .slice A1 n1 c1] 57)).alloc (.cells #[.bool nb, .slice A2 n2 c2] 57)) := ((Below.refl _ _).alloc (Nat.le_refl _) _).alloc (by simp) _
  have HX1' := Lib.hid (HX1.out.here hbA); have HX2' := Lib.hid (HX2.out.here hbA)
  have hb0A := hb02.trans (hbA.mono hb02.size)
  obtain ⟨x0, x1⟩ := hN1.cells
  obtain ⟨y0, y1⟩ := hN2.cells
  have HN1 := Lib.hid hN1; have HN2 := Lib.hid hN2
  clear hN1 hN2 hbA HX1 HX2 HO1 HO2
  generalize (w2.alloc (.cells #[.bool na, .slice A1 n1 c1] 57)).alloc (.cells #[.bool nb, .slice A2 n2 c2] 57) = W at *
  have HTM := Lib.hid (times_any A1 A2 n1 n2 c1 c2 xs ys u v W.drew HX1'.out.drew HX2'.out.drew HM1.out HM2.out (by have := HL1.out; have := HK.out; omega) (by have := HL2.out; have := HK.out; omega))
  go_region_held3 (fun w' => w'.cell? ⟨w2.heap.size, 0, none⟩ = some (.bool na) ∧ w'.cell? ⟨w2.heap.size, 1, none⟩ = some (.slice A1 n1 c1) ∧ w'.cell? ⟨w2.heap.size + 1, 0, none⟩ = some (.bool nb) ∧ w'.cell? ⟨w2.heap.size + 1, 1, none⟩ = some (.slice A2 n2 c2))
    (first
      | exact ⟨x0, x1, y0, y1⟩
      | exact ⟨(HN1.out.here hbz).cells.1, (HN1.out.here hbz).cells.2, (HN2.out.here hbz).cells.1, (HN2.out.here hbz).cells.2⟩
      | exact ⟨(HN1.out.here hbz4).cells.1, (HN1.out.here hbz4).cells.2, (HN2.out.here hbz4).cells.1, (HN2.out.here hbz4).cells.2⟩)
    (first
    | (go_at_call 66; refine HTM.out.mono ?_; rintro e w3 ⟨A3, n3, c3, zs, rfl, ho3, mg3, hb3⟩
       have hbz : Below W.heap.size W w3 := (Below.refl _ W).drew.trans hb3
       have HX3 := Lib.hid (ho3.sl U1_len)
       have HL3 := Lib.hid (show n3 ≤ K + K by rw [HX3.out.1]; exact mg3.len HUV.out)
       have hcap : n3 ≤ c3 := by obtain ⟨h1, h2, _⟩ := ho3.facts; omega
       have hb03 := hb0A.trans (hbz.mono hb0A.size)
       have HTX := Lib.hid (text_any (na != nb) A3 n3 c3 zs w3 HX3.out mg3.gs hcap (by have := HL3.out; have := HK.out; omega) (HP.out.here hb03))
       rw [mg3.val, numT_sv, HS.out] at HTX
       unfold S at HTX
       clear ho3 mg3 hb3)
    | (go_at_call 67; refine HTX.out.mono ?_; rintro e w4 ⟨rfl, hb4⟩; have hbz4 := hbz.trans (hb4.mono hbz.size)))
  all_goals
    go_wp2_with fail
    rw [HPO.out]
    exact ⟨rfl, hb03.trans (hb4.mono hb03.size)⟩
set_option maxRecDepth 20000 in
set_option maxHeartbeats 2000000 in
theorem Neg_any (a : List UInt8) (w : World) (hp : Pow w) (ha : a.length ≤ 100000) : Calls Tryz.prog 71 #[S a] w (StrPost (txtL (-val a)) w) := by
  have HRa := Lib.hid (read_any a w (by omega))
  obtain ⟨K, hK⟩ : ∃ K : Nat, K = 100000 := ⟨_, rfl⟩
  have hva := valD_small (show a.length ≤ K by omega)
  have HK := Lib.hid hK; clear hK
  have HS := Lib.hid (show sv (!(digL a).2) (valD (digL a).1) = -val a by rw [sv_not, sv_val])
  have HPO := Lib.hid (show StrPost (txtL (-val a)) w = fun e w' => e = .returned (S (txtL (-val a))) ∧ Below w.heap.size w w' from rfl)
  unfold ReadPost at HRa
  have HVA := Lib.hid hva; have HP := Lib.hid hp
  generalize StrPost (txtL (-val a)) w = post at *
  generalize (digL a).2 = na at *
  generalize valD (digL a).1 = u at *
  clear ha hva hp
  unfold S at *
  go_enter Tryz.func71, Tryz.ntmps71
  go_wp2_with fail
  refine HRa.out.mono ?_
  rintro e w1 ⟨A1, n1, c1, xs, rfl, ho1, mg1, hb1⟩
  have hbA := (Below.refl w1.heap.size w1).alloc (Nat.le_refl _) (.cells #[.bool (!na), .slice A1 n1 c1] 57)
  have HX1 := Lib.hid ((ho1.below hbA).sl U1_len)
  have HM1 := Lib.hid mg1
  have HL1 := Lib.hid (show n1 ≤ K by rw [HX1.out.1]; exact mg1.len HVA.out)
  have hcap : n1 ≤ c1 := by obtain ⟨h1, h2, _⟩ := ho1.facts; omega
  have hb0A := hb1.trans (hbA.mono hb1.size)
  have HTX := Lib.hid (text_any (!na) A1 n1 c1 xs (w1.alloc (.cells #[.bool (!na), .slice A1 n1 c1] 57)) HX1.out HM1.out.gs hcap (by have := HL1.out; have := HK.out; omega) (HP.out.here hb0A))
  rw [HM1.out.val, numT_sv, HS.out] at HTX
  unfold S at HTX
  clear ho1 mg1
  go_wp2_with fail
  refine HTX.out.mono ?_
  rintro e w4 ⟨rfl, hb4⟩
  go_wp2_with fail
  rw [HPO.out]
  exact ⟨rfl, hb0A.trans (hb4.mono hb0A.size)⟩
end Go.Proofs.YtaiikjgoofefgaaGreatDoor
