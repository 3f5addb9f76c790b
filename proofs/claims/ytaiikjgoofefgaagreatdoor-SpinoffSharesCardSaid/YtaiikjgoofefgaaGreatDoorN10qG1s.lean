/- Contracts of integer.Add and integer.Sub. -/
import Derived.Test.YtaiikjgoofefgaaGreatDoorN9qG1s
namespace Go.Proofs.YtaiikjgoofefgaaGreatDoor
open Go.RowKit Go.Shelf

theorem sv_val (a : List UInt8) : sv (digL a).2 (valD (digL a).1) = val a := rfl
theorem valD_small {a : List UInt8} {k : Nat} (h : a.length ≤ k) : valD (digL a).1 < 1000000000 ^ k := by
  have h1 := valD_lt (digL_ok a).1
  have h2 := digL_len a
  have h3 : 10 ^ (digL a).1.length ≤ 10 ^ k := Nat.pow_le_pow_right (by omega) (by omega)
  have h4 : 10 ^ k ≤ 1000000000 ^ k := Nat.pow_le_pow_left (by omega) k
  omega
theorem sv_le {ng : Bool} {r u v k : Nat} {nx ny : Bool} (h : sv ng r = sv nx u + sv ny v) (hu : u < 1000000000 ^ k) (hv : v < 1000000000 ^ k) : r < 1000000000 ^ (k + 1) := by
  have : r ≤ u + v := by cases ng <;> cases nx <;> cases ny <;> simp [sv] at h <;> omega
  rw [Nat.pow_succ]
  omega
/-- A string result, of which nothing older hangs on. -/
def StrPost (l : List UInt8) (w : World) (e : Ending) (w' : World) : Prop := e = .returned (S l) ∧ Below w.heap.size w w'
set_option maxRecDepth 20000 in
set_option maxHeartbeats 1000000 in
theorem Add_any (a b : List UInt8) (w : World) (hp : Pow w) (ha : a.length ≤ 100000) (hb : b.length ≤ 100000) : Calls Tryz.prog 45 #[S a, S b] w (StrPost (txtL (val a + val b)) w) := by
  have HRa := Lib.hid (read_any a w (by omega))
  have HRb := Lib.hid (fun W => read_any b W (by omega))
  obtain ⟨K, hK⟩ : ∃ K : Nat, K = 100000 := ⟨_, rfl⟩
  have hva := valD_small (show a.length ≤ K by omega)
  have hvb := valD_small (show b.length ≤ K by omega)
  have HK := Lib.hid hK; clear hK
  have HS := Lib.hid (show sv (digL a).2 (valD (digL a).1) + sv (digL b).2 (valD (digL b).1) = val a + val b by rw [sv_val, sv_val])
  have HPO := Lib.hid (show StrPost (txtL (val a + val b)) w = fun e w' => e = .returned (S (txtL (val a + val b))) ∧ Below w.heap.size w w' from rfl)
  unfold ReadPost at HRa HRb
  have HVA := Lib.hid hva; have HVB := Lib.hid hvb; have HP := Lib.hid hp
  generalize StrPost (txtL (val a + val b)) w = post at *
  generalize (digL a).2 = na at *
  generalize (digL b).2 = nb at *
  generalize valD (digL a).1 = u at *
  generalize valD (digL b).1 = v at *
  clear ha hb hva hvb hp
  unfold S at *
  go_enter Tryz.func45, Tryz.ntmps45
  go_wp2_with fail
  refine HRa.out.mono ?_
  rintro e w1 ⟨A1, n1, c1, xs, rfl, ho1, mg1, hb1⟩
  have HO1 := Lib.hid ho1; have HM1 := Lib.hid mg1; clear ho1 mg1 HRa
  go_wp2_with fail
  refine (HRb.out _).mono ?_
  rintro e w2 ⟨A2, n2, c2, ys, rfl, ho2, mg2, hb2⟩
  have HO2 := Lib.hid ho2; have HM2 := Lib.hid mg2; clear ho2 mg2 HRb
  have HX1 := Lib.hid ((HO1.out.below hb2).sl U1_len)
  have HX2 := Lib.hid (HO2.out.sl U1_len)
  have HL1 := Lib.hid (show n1 ≤ K by rw [HX1.out.1]; exact HM1.out.len HVA.out)
  have HL2 := Lib.hid (show n2 ≤ K by rw [HX2.out.1]; exact HM2.out.len HVB.out)
  have hb02 := hb1.trans (hb2.mono hb1.size)
  go_wp2_with fail
  refine (add_any na nb A1 A2 n1 n2 c1 c2 xs ys u v w2 HX1.out HX2.out HM1.out HM2.out (by have := HL1.out; have := HK.out; omega) (by have := HL2.out; have := HK.out; omega)).mono ?_
  rintro e w3 ⟨ng, A3, n3, c3, zs, r, rfl, ho3, mg3, hsv, hb3⟩
  have HX3 := Lib.hid (ho3.sl U1_len)
  have HL3 := Lib.hid (show n3 ≤ K + 1 by rw [HX3.out.1]; exact mg3.len (sv_le hsv HVA.out HVB.out))
  have hcap : n3 ≤ c3 := by obtain ⟨h1, h2, _⟩ := ho3.facts; omega
  have HM3 := Lib.hid mg3; have HSV := Lib.hid hsv
  have hb03 := hb02.trans (hb3.mono hb02.size)
  clear ho3 mg3 hsv
  have HTX := Lib.hid (text_any ng A3 n3 c3 zs w3 HX3.out HM3.out.gs hcap (by have := HL3.out; have := HK.out; omega) (HP.out.here hb03))
  rw [HM3.out.val, numT_sv, HSV.out, HS.out] at HTX
  unfold S at HTX
  go_wp2_with fail
  refine HTX.out.mono ?_
  rintro e w4 ⟨rfl, hb4⟩
  go_wp2_with fail
  rw [HPO.out]
  exact ⟨rfl, hb03.trans (hb4.mono hb03.size)⟩
theorem sv_not (nb : Bool) (v : Nat) : sv (!nb) v = -sv nb v := by cases nb <;> simp [sv]
set_option maxRecDepth 20000 in
set_option maxHeartbeats 2000000 in
theorem Sub_any (a b : List UInt8) (w : World) (hp : Pow w) (ha : a.length ≤ 100000) (hb : b.length ≤ 100000) : Calls Tryz.prog 47 #[S a, S b] w (StrPost (txtL (val a - val b)) w) := by
  have HRa := Lib.hid (fun W => read_any a W (by omega))
  have HRb := Lib.hid (read_any b w (by omega))
  obtain ⟨K, hK⟩ : ∃ K : Nat, K = 100000 := ⟨_, rfl⟩
  have hva := valD_small (show a.length ≤ K by omega)
  have hvb := valD_small (show b.length ≤ K by omega)
  have HK := Lib.hid hK; clear hK
  have HS := Lib.hid (show sv (digL a).2 (valD (digL a).1) + sv (!(digL b).2) (valD (digL b).1) = val a - val b by rw [sv_not, sv_val, sv_val]; omega)
  have HPO := Lib.hid (show StrPost (txtL (val a - val b)) w = fun e w' => e = .returned (S (txtL (val a - val b))) ∧ Below w.heap.size w w' from rfl)
  unfold ReadPost at HRa HRb
  have HVA := Lib.hid hva; have HVB := Lib.hid hvb; have HP := Lib.hid hp
  generalize StrPost (txtL (val a - val b)) w = post at *
  generalize (digL a).2 = na at *
  generalize (digL b).2 = nb at *
  generalize valD (digL a).1 = u at *
  generalize valD (digL b).1 = v at *
  clear ha hb hva hvb hp
  unfold S at *
  go_enter Tryz.func47, Tryz.ntmps47
  go_wp2_with fail
  refine HRb.out.mono ?_
  rintro e w1 ⟨A2, n2, c2, ys, rfl, ho2, mg2, hb1⟩
  have HO2 := Lib.hid ho2; have HM2 := Lib.hid mg2; clear ho2 mg2 HRb
  go_wp2_with fail
  have HN := Lib.hid (NumB.new w1 (!nb) A2 n2 c2)
  have hbA := (Below.refl w1.heap.size w1).alloc (Nat.le_refl _) (.cells #[.bool (!nb), .slice A2 n2 c2] 57)
  have HX2 := Lib.hid ((HO2.out.below hbA).sl U1_len)
  have HL2 := Lib.hid (show n2 ≤ K by rw [HX2.out.1]; exact HM2.out.len HVB.out)
  have hb0A := hb1.trans (hbA.mono hb1.size)
  obtain ⟨y0, y1⟩ := HN.out.cells
  generalize w1.alloc (.cells #[.bool (!nb), .slice A2 n2 c2] 57) = W2 at *
  generalize (!nb) = ny at *
  go_region_with (first
    | (go_at_call 50; refine (HRa.out _).mono ?_; rintro e w2 ⟨A1, n1, c1, xs, rfl, ho1, mg1, hb2⟩
       have hbz : Below W2.heap.size W2 w2 := (Below.refl _ W2).drew.trans hb2
       have z0 := (HN.out.here hbz).cells.1
       have z1 := (HN.out.here hbz).cells.2
       have HX1 := Lib.hid (ho1.sl U1_len)
       have HM1 := Lib.hid mg1
       have HL1 := Lib.hid (show n1 ≤ K by rw [HX1.out.1]; exact mg1.len HVA.out)
       have hb02 := hb0A.trans (hbz.mono hb0A.size)
       clear ho1 mg1 hb2)
    | (go_at_call 68; refine (add_any na ny A1 A2 n1 n2 c1 c2 xs ys u v w2 HX1.out (HX2.out.here hbz) HM1.out HM2.out (by have := HL1.out; have := HK.out; omega) (by have := HL2.out; have := HK.out; omega)).mono ?_; rintro e w3 ⟨ng, A3, n3, c3, zs, r, rfl, ho3, mg3, hsv, hb3⟩
       have HX3 := Lib.hid (ho3.sl U1_len)
       have HL3 := Lib.hid (show n3 ≤ K + 1 by rw [HX3.out.1]; exact mg3.len (sv_le hsv HVA.out HVB.out))
       have hcap : n3 ≤ c3 := by obtain ⟨h1, h2, _⟩ := ho3.facts; omega
       have HM3 := Lib.hid mg3; have HSV := Lib.hid hsv
       have hb03 := hb02.trans (hb3.mono hb02.size)
       have HTX := Lib.hid (text_any ng A3 n3 c3 zs w3 HX3.out HM3.out.gs hcap (by have := HL3.out; have := HK.out; omega) (HP.out.here hb03))
       rw [HM3.out.val, numT_sv, HSV.out, HS.out] at HTX
       unfold S at HTX
       clear ho3 mg3 hsv)
    | (go_at_call 67; refine HTX.out.mono ?_; rintro e w4 ⟨rfl, hb4⟩))
  all_goals
    go_wp2_with fail
    go_ret
    rw [HPO.out]
    exact ⟨rfl, hb03.trans (hb4.mono hb03.size)⟩
end Go.Proofs.YtaiikjgoofefgaaGreatDoor
