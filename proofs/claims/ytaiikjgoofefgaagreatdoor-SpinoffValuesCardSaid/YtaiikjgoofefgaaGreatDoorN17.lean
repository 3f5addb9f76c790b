/- Contracts of integer.Compare and integer.Div. -/
import Derived.Test.YtaiikjgoofefgaaGreatDoorN16
namespace Go.Proofs.YtaiikjgoofefgaaGreatDoor
open Go.RowKit Go.Shelf

theorem sv_neg (a : List UInt8) : (digL a).2 = true → val a < 0 := by
  intro h
  rw [neg_val] at h
  simpa using h
theorem cmp_sv {x y : Int} {na nb : Bool} {u v : Nat} {r : Int} (hx : x = sv na u) (hy : y = sv nb v) (hxn : na = true → x < 0) (hyn : nb = true → y < 0) (h1 : r < 0 ↔ u < v) (h2 : 0 < r ↔ v < u) :
    (na = true ∧ nb = false → sgnI (x - y) = -1) ∧ (na = false ∧ nb = true → sgnI (x - y) = 1) ∧ (na = true ∧ nb = true → sgnI (x - y) = max (-1) (min (-r) 1)) ∧ (na = false ∧ nb = false → sgnI (x - y) = max (-1) (min r 1)) := by
  unfold sgnI
  cases na <;> cases nb <;> simp [sv] at hx hy hxn hyn ⊢ <;> (repeat' split) <;> omega
/-- What Compare gives. -/
def CmpIPost (s : Int) (w : World) (e : Ending) (w' : World) : Prop := e = .returned (.int .i64 s) ∧ Below w.heap.size w w'
set_option maxRecDepth 20000 in
set_option maxHeartbeats 1000000 in
theorem Compare_any (a b : List UInt8) (w : World) (ha : a.length ≤ 100000) (hb : b.length ≤ 100000) : Calls Tryz.prog 28 #[S a, S b] w (CmpIPost (sgnI (val a - val b)) w) := by
  have HRa := Lib.hid (read_any a w (by omega))
  have HRb := Lib.hid (fun W => read_any b W (by omega))
  obtain ⟨K, hK⟩ : ∃ K : Nat, K = 100000 := ⟨_, rfl⟩
  have hva := valD_small (show a.length ≤ K by omega)
  have hvb := valD_small (show b.length ≤ K by omega)
  have HK := Lib.hid hK; clear hK
  have HS := Lib.hid (fun (r : Int) => cmp_sv (r := r) (sv_val a).symm (sv_val b).symm (sv_neg a) (sv_neg b))
  have HPO := Lib.hid (show CmpIPost (sgnI (val a - val b)) w = fun e w' => e = .returned (.int .i64 (sgnI (val a - val b))) ∧ Below w.heap.size w w' from rfl)
  unfold ReadPost at HRa HRb
  have HVA := Lib.hid hva; have HVB := Lib.hid hvb
  generalize CmpIPost (sgnI (val a - val b)) w = post at *
  generalize sgnI (val a - val b) = res at *
  generalize (digL a).2 = na at *
  generalize (digL b).2 = nb at *
  generalize valD (digL a).1 = u at *
  generalize valD (digL b).1 = v at *
  clear ha hb hva hvb
  unfold S at *
  go_enter Tryz.func28, Tryz.ntmps28
  go_wp2_with fail
  refine HRa.out.mono ?_
  rintro e w1 ⟨A1, n1, c1, xs, rfl, ho1, mg1, hb1⟩
  have HO1 := Lib.hid ho1; have HM1 := Lib.hid mg1; clear ho1 mg1 HRa
  go_wp2_with fail
  refine (HRb.out _).mono ?_
  rintro e w2 ⟨A2, n2, c2, ys, rfl, ho2, mg2, hb2⟩
  have HO2 := Lib.hid ho2; have HM2 := Lib.hid mg2; clear ho2 mg2 HRb
  have HX1 := Lib.hid ((HO1.out.below hb2).sl U1_len)
  have HX2 := Lib.hid (HO2.out.sl U1_len)
  have HL1 := Lib.hid (show n1 ≤ K by rw [HX1.out.1]; exact HM1.out.len HVA.out)
  have HL2 := Lib.hid (show n2 ≤ K by rw [HX2.out.1]; exact HM2.out.len HVB.out)
  have hb02 := hb1.trans (hb2.mono hb1.size)
  have hN1 : NumB ((w2.alloc (.cells #[.bool na, .slice A1 n1 c1] 57)).alloc (.cells #[.bool nb, .slice A2 n2 c2] 57)) w2.heap.size na A1 n1 c1 := (NumB.new w2 na A1 n1 c1).alloc _
  have hN2 : NumB ((w2.alloc (.cells #[.bool na, .slice A1 n1 c1] 57)).alloc (.cells #[.bool nb, .slice A2 n2 c2] 57)) (w2.heap.size + 1) nb A2 n2 c2 := by
    have := NumB.new (w2.alloc (.cells #[.bool na, .slice A1 n1 c1] 57)) nb A2 n2 c2
    simpa using this
  have hbA : Below w2.heap.size w2 ((w2.alloc (.cells #[.bool na, .slice A1 n1 c1] 57)).alloc (.cells #[.bool nb, .slice A2 n2 c2] 57)) := ((Below.refl _ _).alloc (Nat.le_refl _) _).alloc (by simp) _
  have HX1' := Lib.hid (HX1.out.here hbA); have HX2' := Lib.hid (HX2.out.here hbA)
  have hb0A := hb02.trans (hbA.mono hb02.size)
  have HN1 := Lib.hid hN1; have HN2 := Lib.hid hN2
  clear hN1 hN2 hbA HX1 HX2 HO1 HO2
  go_wp2_with fail
  generalize (w2.alloc (.cells #[.bool na, .slice A1 n1 c1] 57)).alloc (.cells #[.bool nb, .slice A2 n2 c2] 57) = W at *
  (with_reducible refine (compare_any A1 A2 n1 n2 c1 c2 xs ys u v W HX1'.out HX2'.out HM1.out HM2.out (by have := HL1.out; have := HK.out; omega) (by have := HL2.out; have := HK.out; omega)).mono ?_)
  rintro e w3 ⟨r, rfl, hr1, hr2, hr3, hr4, hb3⟩
  have x0 := (HN1.out.here hb3).cells.1
  have y0 := (HN2.out.here hb3).cells.1
  have HR := Lib.hid (HS.out r hr1 hr2)
  have hb03 := hb0A.trans (hb3.mono hb0A.size)
  clear hr1 hr2 HS
  cases na <;> cases nb
  all_goals
    go_wp2_with fail
    rw [HPO.out]
    refine ⟨?_, hb03⟩
    simp at HR
    rw [HR.out]
    rfl
theorem fdiv_sv (na nb : Bool) (u v : Nat) (hv : 0 < v) :
    (na = nb ∨ u % v = 0 → (sv na u).fdiv (sv nb v) = sv (na != nb) (u / v) ∧ (sv na u).fmod (sv nb v) = sv nb (u % v)) ∧
    (na ≠ nb ∧ 0 < u % v → (sv na u).fdiv (sv nb v) = sv (na != nb) (u / v + 1) ∧ (sv na u).fmod (sv nb v) = sv nb (v - u % v)) := by
  have hdm := Nat.div_add_mod u v
  have hlt := Nat.mod_lt u hv
  generalize u / v = q at *
  generalize u % v = r at *
  have hu : (u : Int) = (v : Int) * q + r := by rw [← hdm]; simp
  clear hdm
  have key : ∀ (a b x y : Int), b = v ∨ b = -(v : Int) → y + b * x = a → (0 ≤ y ∧ y < b ∨ b < y ∧ y ≤ 0) → a.fdiv b = x ∧ a.fmod b = y := by
    intro a b x y hb he hr
    rcases hr with ⟨h1, h2⟩ | ⟨h1, h2⟩
    · exact (Int.fdiv_fmod_unique (by omega)).2 ⟨he, h1, h2⟩
    · exact (Int.fdiv_fmod_unique' (by omega)).2 ⟨he, h1, h2⟩
  constructor
  · intro h
    refine key _ _ _ _ (by cases nb <;> simp [sv]) ?_ ?_
    · cases na <;> cases nb <;> simp [sv, Int.mul_neg, Int.neg_mul] at h ⊢ <;> (try subst h) <;> (try simp at hu) <;> omega
    · cases nb <;> simp [sv] <;> omega
  · rintro ⟨h, h0⟩
    refine key _ _ _ _ (by cases nb <;> simp [sv]) ?_ ?_
    · cases na <;> cases nb <;> simp [sv, Int.mul_neg, Int.neg_mul, Int.mul_add] at h ⊢ <;> omega
    · cases nb <;> simp [sv] <;> omega
/-- What Div gives. -/
def Div3Post (a b : Int) (w : World) (e : Ending) (w' : World) : Prop :=
  e = .returned (if b = 0 then .tuple #[S [], S [], .int .i64 10] else .tuple #[S (txtL (a.fdiv b)), S (txtL (a.fmod b)), .int .i64 0]) ∧ Below w.heap.size w w'
theorem valD_zero (a : List UInt8) : valD (digL a).1 = 0 ↔ val a = 0 := by
  rw [← sv_val]
  cases (digL a).2 <;> simp [sv]
end Go.Proofs.YtaiikjgoofefgaaGreatDoor
