/- Merged texts: N16, N17. -/
import Derived.Test.YtaiikjgoofefgaaGreatDoorN15qG1s
import Derived.Test.YtaiikjgoofefgaaGreatDoorN10qG1s
import Derived.Test.YtaiikjgoofefgaaGreatDoorFRqG1s
import Derived.Deep.RegionHeld3
/- Contracts of integer's magnitude.divide, Mul, Neg, Compare. -/
namespace Go.Proofs.YtaiikjgoofefgaaGreatDoor
open Go.RowKit Go.Shelf

theorem divide_any (A A' : Option Addr) (n m c c' : Nat) (xs ys : List Nat) (u v : Nat) (w : World) (hx : Gr w w.heap.size A n xs) (hy : Gr w w.heap.size A' m ys) (mx : Mag xs u) (my : Mag ys v) (hn : n ≤ 100000) (hm : m ≤ 100000) (hc : n ≤ c) (hv : 0 < v) :
    Calls Tryz.prog 95 #[.slice A n c, .slice A' m c'] w (DivPost (u / v) (u % v) w) := by
  rcases Nat.lt_or_ge u v with h | h
  · exact divide_less A A' n m c c' xs ys u v w hx hy mx my (by omega) (by omega) hc h
  · match m, hy, hm with
    | 0, hy, _ =>
      have := my.nil_iff.1 (List.eq_nil_of_length_eq_zero hy.1.symm)
      omega
    | 1, hy, _ => exact divide_one A A' n c c' xs ys u v w hx hy mx my (by omega) h
    | m + 2, hy, hm => exact divide_many A A' n (m + 2) c c' xs ys u v w hx hy mx my hn hm (by omega) h
theorem sv_mul (a b : Bool) (u v : Nat) : sv (a != b) (u * v) = sv a u * sv b v := by
  cases a <;> cases b <;> simp [sv, Int.neg_mul, Int.mul_neg]
set_option maxRecDepth 20000 in
set_option maxHeartbeats 600000 in
theorem Mul_any (a b : List UInt8) (w : World) (hp : Pow w) (ha : a.length ≤ 100000) (hb : b.length ≤ 100000) : Calls Tryz.prog 43 #[S a, S b] w (StrPost (txtL (val a * val b)) w) := by
  have HRa := Lib.hid (read_any a w (by omega))
  have HRb := Lib.hid (fun W => read_any b W (by omega))
  obtain ⟨K, hK⟩ : ∃ K : Nat, K = 100000 := ⟨_, rfl⟩
  have hva := valD_small (show a.length ≤ K by omega)
  have hvb := valD_small (show b.length ≤ K by omega)
  have HK := Lib.hid hK; clear hK
  have HS := Lib.hid (show sv ((digL a).2 != (digL b).2) (valD (digL a).1 * valD (digL b).1) = val a * val b by rw [sv_mul, sv_val, sv_val])
  have HPO := Lib.hid (show StrPost (txtL (val a * val b)) w = fun e w' => e = .returned (S (txtL (val a * val b))) ∧ Below w.heap.size w w' from rfl)
  unfold ReadPost at HRa HRb
  have HVA := Lib.hid hva; have HVB := Lib.hid hvb; have HP := Lib.hid hp
  generalize StrPost (txtL (val a * val b)) w = post at *
  generalize (digL a).2 = na at *
  generalize (digL b).2 = nb at *
  generalize valD (digL a).1 = u at *
  generalize valD (digL b).1 = v at *
  have HUV := Lib.hid (show u * v < 1000000000 ^ (K + K) by rw [Nat.pow_add]; exact Nat.mul_lt_mul'' hva hvb)
  clear ha hb hva hvb hp
  unfold S at *
  go_enter Tryz.func43, Tryz.ntmps43
  go_wp2_with fail
  refine HRa.out.mono ?_
  rintro e w1 ⟨A1, n1, c1, xs, rfl, ho1, mg1, hb1⟩
  have HO1 := Lib.hid ho1; have HM1 := Lib.hid mg1; clear ho1 mg1 HRa
  go_wp2_with fail
  refine (HRb.out _).mono ?_
  rintro e w2 ⟨A2, n2, c2, ys, rfl, ho2, mg2, hb2⟩
  have HO2 := Lib.hid ho2; have HM2 := Lib.hid mg2; clear ho2 mg2 HRb
  have HX1 := Lib.hid ((HO1.out.below hb2).sl U1_len)
  have HX2 := Lib.hid (HO2.out.sl U1_len)
  have HL1 := Lib.hid (show n1 ≤ K by rw [HX1.out.1]; exact HM1.out.len HVA.out)
  have HL2 := Lib.hid (show n2 ≤ K by rw [HX2.out.1]; exact HM2.out.len HVB.out)
  have hb02 := hb1.trans (hb2.mono hb1.size)
  go_wp2_with fail
  have hN1 : NumB ((w2.alloc (.cells #[.bool na, .slice A1 n1 c1] 57)).alloc (.cells #[.bool nb, .slice A2 n2 c2] 57)) w2.heap.size na A1 n1 c1 := (NumB.new w2 na A1 n1 c1).alloc _
  have hN2 : NumB ((w2.alloc (.cells #[.bool na, .slice A1 n1 c1] 57)).alloc (.cells #[.bool nb, .slice A2 n2 c2] 57)) (w2.heap.size + 1) nb A2 n2 c2 := by
    have := NumB.new (w2.alloc (.cells #[.bool na, .slice A1 n1 c1] 57)) nb A2 n2 c2
    simpa using this
  have hbA : Below w2.heap.size w2 ((w2.alloc (.cells #[.bool na, .slice A1 n1 c1] 57)).alloc (.cells #[.bool nb, .slice A2 n2 c2] 57)) := ((Below.refl _ _).alloc (Nat.le_refl _) _).alloc (by simp) _
  have HX1' := Lib.hid (HX1.out.here hbA); have HX2' := Lib.hid (HX2.out.here hbA)
  have hb0A := hb02.trans (hbA.mono hb02.size)
  obtain ⟨x0, x1⟩ := hN1.cells
  obtain ⟨y0, y1⟩ := hN2.cells
  have HN1 := Lib.hid hN1; have HN2 := Lib.hid hN2
  clear hN1 hN2 hbA HX1 HX2 HO1 HO2
  generalize (w2.alloc (.cells #[.bool na, .slice A1 n1 c1] 57)).alloc (.cells #[.bool nb, .slice A2 n2 c2] 57) = W at *
  have HTM := Lib.hid (times_any A1 A2 n1 n2 c1 c2 xs ys u v W.drew HX1'.out.drew HX2'.out.drew HM1.out HM2.out (by have := HL1.out; have := HK.out; omega) (by have := HL2.out; have := HK.out; omega))
  go_region_held3 (fun w' => w'.cell? ⟨w2.heap.size, 0, none⟩ = some (.bool na) ∧ w'.cell? ⟨w2.heap.size, 1, none⟩ = some (.slice A1 n1 c1) ∧ w'.cell? ⟨w2.heap.size + 1, 0, none⟩ = some (.bool nb) ∧ w'.cell? ⟨w2.heap.size + 1, 1, none⟩ = some (.slice A2 n2 c2))
    (first
      | exact ⟨x0, x1, y0, y1⟩
      | exact ⟨(HN1.out.here hbz).cells.1, (HN1.out.here hbz).cells.2, (HN2.out.here hbz).cells.1, (HN2.out.here hbz).cells.2⟩
      | exact ⟨(HN1.out.here hbz4).cells.1, (HN1.out.here hbz4).cells.2, (HN2.out.here hbz4).cells.1, (HN2.out.here hbz4).cells.2⟩)
    (first
    | (go_at_call 66; refine HTM.out.mono ?_; rintro e w3 ⟨A3, n3, c3, zs, rfl, ho3, mg3, hb3⟩
       have hbz : Below W.heap.size W w3 := (Below.refl _ W).drew.trans hb3
       have HX3 := Lib.hid (ho3.sl U1_len)
       have HL3 := Lib.hid (show n3 ≤ K + K by rw [HX3.out.1]; exact mg3.len HUV.out)
       have hcap : n3 ≤ c3 := by obtain ⟨h1, h2, _⟩ := ho3.facts; omega
       have hb03 := hb0A.trans (hbz.mono hb0A.size)
       have HTX := Lib.hid (text_any (na != nb) A3 n3 c3 zs w3 HX3.out mg3.gs hcap (by have := HL3.out; have := HK.out; omega) (HP.out.here hb03))
       rw [mg3.val, numT_sv, HS.out] at HTX
       unfold S at HTX
       clear ho3 mg3 hb3)
    | (go_at_call 67; refine HTX.out.mono ?_; rintro e w4 ⟨rfl, hb4⟩; have hbz4 := hbz.trans (hb4.mono hbz.size)))
  all_goals
    go_wp2_with fail
    rw [HPO.out]
    exact ⟨rfl, hb03.trans (hb4.mono hb03.size)⟩
set_option maxRecDepth 20000 in
set_option maxHeartbeats 2000000 in
theorem Neg_any (a : List UInt8) (w : World) (hp : Pow w) (ha : a.length ≤ 100000) : Calls Tryz.prog 71 #[S a] w (StrPost (txtL (-val a)) w) := by
  have HRa := Lib.hid (read_any a w (by omega))
  obtain ⟨K, hK⟩ : ∃ K : Nat, K = 100000 := ⟨_, rfl⟩
  have hva := valD_small (show a.length ≤ K by omega)
  have HK := Lib.hid hK; clear hK
  have HS := Lib.hid (show sv (!(digL a).2) (valD (digL a).1) = -val a by rw [sv_not, sv_val])
  have HPO := Lib.hid (show StrPost (txtL (-val a)) w = fun e w' => e = .returned (S (txtL (-val a))) ∧ Below w.heap.size w w' from rfl)
  unfold ReadPost at HRa
  have HVA := Lib.hid hva; have HP := Lib.hid hp
  generalize StrPost (txtL (-val a)) w = post at *
  generalize (digL a).2 = na at *
  generalize valD (digL a).1 = u at *
  clear ha hva hp
  unfold S at *
  go_enter Tryz.func71, Tryz.ntmps71
  go_wp2_with fail
  refine HRa.out.mono ?_
  rintro e w1 ⟨A1, n1, c1, xs, rfl, ho1, mg1, hb1⟩
  have hbA := (Below.refl w1.heap.size w1).alloc (Nat.le_refl _) (.cells #[.bool (!na), .slice A1 n1 c1] 57)
  have HX1 := Lib.hid ((ho1.below hbA).sl U1_len)
  have HM1 := Lib.hid mg1
  have HL1 := Lib.hid (show n1 ≤ K by rw [HX1.out.1]; exact mg1.len HVA.out)
  have hcap : n1 ≤ c1 := by obtain ⟨h1, h2, _⟩ := ho1.facts; omega
  have hb0A := hb1.trans (hbA.mono hb1.size)
  have HTX := Lib.hid (text_any (!na) A1 n1 c1 xs (w1.alloc (.cells #[.bool (!na), .slice A1 n1 c1] 57)) HX1.out HM1.out.gs hcap (by have := HL1.out; have := HK.out; omega) (HP.out.here hb0A))
  rw [HM1.out.val, numT_sv, HS.out] at HTX
  unfold S at HTX
  clear ho1 mg1
  go_wp2_with fail
  refine HTX.out.mono ?_
  rintro e w4 ⟨rfl, hb4⟩
  go_wp2_with fail
  rw [HPO.out]
  exact ⟨rfl, hb0A.trans (hb4.mono hb0A.size)⟩
end Go.Proofs.YtaiikjgoofefgaaGreatDoor
/- Contracts of integer.Compare and integer.Div. -/
namespace Go.Proofs.YtaiikjgoofefgaaGreatDoor
open Go.RowKit Go.Shelf

theorem sv_neg (a : List UInt8) : (digL a).2 = true → val a < 0 := by
  intro h
  rw [neg_val] at h
  simpa using h
theorem cmp_sv {x y : Int} {na nb : Bool} {u v : Nat} {r : Int} (hx : x = sv na u) (hy : y = sv nb v) (hxn : na = true → x < 0) (hyn : nb = true → y < 0) (h1 : r < 0 ↔ u < v) (h2 : 0 < r ↔ v < u) :
    (na = true ∧ nb = false → sgnI (x - y) = -1) ∧ (na = false ∧ nb = true → sgnI (x - y) = 1) ∧ (na = true ∧ nb = true → sgnI (x - y) = max (-1) (min (-r) 1)) ∧ (na = false ∧ nb = false → sgnI (x - y) = max (-1) (min r 1)) := by
  unfold sgnI
  cases na <;> cases nb <;> simp [sv] at hx hy hxn hyn ⊢ <;> (repeat' split) <;> omega
/-- What Compare gives. -/
def CmpIPost (s : Int) (w : World) (e : Ending) (w' : World) : Prop := e = .returned (.int .i64 s) ∧ Below w.heap.size w w'
set_option maxRecDepth 20000 in
set_option maxHeartbeats 1000000 in
theorem Compare_any (a b : List UInt8) (w : World) (ha : a.length ≤ 100000) (hb : b.length ≤ 100000) : Calls Tryz.prog 28 #[S a, S b] w (CmpIPost (sgnI (val a - val b)) w) := by
  have HRa := Lib.hid (read_any a w (by omega))
  have HRb := Lib.hid (fun W => read_any b W (by omega))
  obtain ⟨K, hK⟩ : ∃ K : Nat, K = 100000 := ⟨_, rfl⟩
  have hva := valD_small (show a.length ≤ K by omega)
  have hvb := valD_small (show b.length ≤ K by omega)
  have HK := Lib.hid hK; clear hK
  have HS := Lib.hid (fun (r : Int) => cmp_sv (r := r) (sv_val a).symm (sv_val b).symm (sv_neg a) (sv_neg b))
  have HPO := Lib.hid (show CmpIPost (sgnI (val a - val b)) w = fun e w' => e = .returned (.int .i64 (sgnI (val a - val b))) ∧ Below w.heap.size w w' from rfl)
  unfold ReadPost at HRa HRb
  have HVA := Lib.hid hva; have HVB := Lib.hid hvb
  generalize CmpIPost (sgnI (val a - val b)) w = post at *
  generalize sgnI (val a - val b) = res at *
  generalize (digL a).2 = na at *
  generalize (digL b).2 = nb at *
  generalize valD (digL a).1 = u at *
  generalize valD (digL b).1 = v at *
  clear ha hb hva hvb
  unfold S at *
  go_enter Tryz.func28, Tryz.ntmps28
  go_wp2_with fail
  refine HRa.out.mono ?_
  rintro e w1 ⟨A1, n1, c1, xs, rfl, ho1, mg1, hb1⟩
  have HO1 := Lib.hid ho1; have HM1 := Lib.hid mg1; clear ho1 mg1 HRa
  go_wp2_with fail
  refine (HRb.out _).mono ?_
  rintro e w2 ⟨A2, n2, c2, ys, rfl, ho2, mg2, hb2⟩
  have HO2 := Lib.hid ho2; have HM2 := Lib.hid mg2; clear ho2 mg2 HRb
  have HX1 := Lib.hid ((HO1.out.below hb2).sl U1_len)
  have HX2 := Lib.hid (HO2.out.sl U1_len)
  have HL1 := Lib.hid (show n1 ≤ K by rw [HX1.out.1]; exact HM1.out.len HVA.out)
  have HL2 := Lib.hid (show n2 ≤ K by rw [HX2.out.1]; exact HM2.out.len HVB.out)
  have hb02 := hb1.trans (hb2.mono hb1.size)
  have hN1 : NumB ((w2.alloc (.cells #[.bool na, .slice A1 n1 c1] 57)).alloc (.cells #[.bool nb, .slice A2 n2 c2] 57)) w2.heap.size na A1 n1 c1 := (NumB.new w2 na A1 n1 c1).alloc _
  have hN2 : NumB ((w2.alloc (.cells #[.bool na, .slice A1 n1 c1] 57)).alloc (.cells #[.bool nb, .slice A2 n2 c2] 57)) (w2.heap.size + 1) nb A2 n2 c2 := by
    have := NumB.new (w2.alloc (.cells #[.bool na, .slice A1 n1 c1] 57)) nb A2 n2 c2
    simpa using this
  have hbA : Below w2.heap.size w2 ((w2.alloc (.cells #[.bool na, .slice A1 n1 c1] 57)).alloc (.cells #[.bool nb, .slice A2 n2 c2] 57)) := ((Below.refl _ _).alloc (Nat.le_refl _) _).alloc (by simp) _
  have HX1' := Lib.hid (HX1.out.here hbA); have HX2' := Lib.hid (HX2.out.here hbA)
  have hb0A := hb02.trans (hbA.mono hb02.size)
  have HN1 := Lib.hid hN1; have HN2 := Lib.hid hN2
  clear hN1 hN2 hbA HX1 HX2 HO1 HO2
  go_wp2_with fail
  generalize (w2.alloc (.cells #[.bool na, .slice A1 n1 c1] 57)).alloc (.cells #[.bool nb, .slice A2 n2 c2] 57) = W at *
  (with_reducible refine (compare_any A1 A2 n1 n2 c1 c2 xs ys u v W HX1'.out HX2'.out HM1.out HM2.out (by have := HL1.out; have := HK.out; omega) (by have := HL2.out; have := HK.out; omega)).mono ?_)
  rintro e w3 ⟨r, rfl, hr1, hr2, hr3, hr4, hb3⟩
  have x0 := (HN1.out.here hb3).cells.1
  have y0 := (HN2.out.here hb3).cells.1
  have HR := Lib.hid (HS.out r hr1 hr2)
  have hb03 := hb0A.trans (hb3.mono hb0A.size)
  clear hr1 hr2 HS
  cases na <;> cases nb
  all_goals
    go_wp2_with fail
    rw [HPO.out]
    refine ⟨?_, hb03⟩
    simp at HR
    rw [HR.out]
    rfl
theorem fdiv_sv (na nb : Bool) (u v : Nat) (hv : 0 < v) :
    (na = nb ∨ u % v = 0 → (sv na u).fdiv (sv nb v) = sv (na != nb) (u / v) ∧ (sv na u).fmod (sv nb v) = sv nb (u % v)) ∧
    (na ≠ nb ∧ 0 < u % v → (sv na u).fdiv (sv nb v) = sv (na != nb) (u / v + 1) ∧ (sv na u).fmod (sv nb v) = sv nb (v - u % v)) := by
  have hdm := Nat.div_add_mod u v
  have hlt := Nat.mod_lt u hv
  generalize u / v = q at *
  generalize u % v = r at *
  have hu : (u : Int) = (v : Int) * q + r := by rw [← hdm]; simp
  clear hdm
  have key : ∀ (a b x y : Int), b = v ∨ b = -(v : Int) → y + b * x = a → (0 ≤ y ∧ y < b ∨ b < y ∧ y ≤ 0) → a.fdiv b = x ∧ a.fmod b = y := by
    intro a b x y hb he hr
    rcases hr with ⟨h1, h2⟩ | ⟨h1, h2⟩
    · exact (Int.fdiv_fmod_unique (by omega)).2 ⟨he, h1, h2⟩
    · exact (Int.fdiv_fmod_unique' (by omega)).2 ⟨he, h1, h2⟩
  constructor
  · intro h
    refine key _ _ _ _ (by cases nb <;> simp [sv]) ?_ ?_
    · cases na <;> cases nb <;> simp [sv, Int.mul_neg, Int.neg_mul] at h ⊢ <;> (try subst h) <;> (try simp at hu) <;> omega
    · cases nb <;> simp [sv] <;> omega
  · rintro ⟨h, h0⟩
    refine key _ _ _ _ (by cases nb <;> simp [sv]) ?_ ?_
    · cases na <;> cases nb <;> simp [sv, Int.mul_neg, Int.neg_mul, Int.mul_add] at h ⊢ <;> omega
    · cases nb <;> simp [sv] <;> omega
/-- What Div gives. -/
def Div3Post (a b : Int) (w : World) (e : Ending) (w' : World) : Prop :=
  e = .returned (if b = 0 then .tuple #[S [], S [], .int .i64 10] else .tuple #[S (txtL (a.fdiv b)), S (txtL (a.fmod b)), .int .i64 0]) ∧ Below w.heap.size w w'
theorem valD_zero (a : List UInt8) : valD (digL a).1 = 0 ↔ val a = 0 := by
  rw [← sv_val]
  cases (digL a).2 <;> simp [sv]
end Go.Proofs.YtaiikjgoofefgaaGreatDoor
