/- Merged texts: FR, N16, N17. -/
import Derived.Test.YtbnfgbcgpbdpcaaGreatDoorQGW1
import Derived.Test.YtbnfgbcgpbdpcaaGreatDoorN15qGW
import Derived.Test.YtbnfgbcgpbdpcaaGreatDoorQGW3
import Derived.Deep.RegionHeld3
/- Fractions as texts and as rational numbers, plain. -/
namespace Go.Proofs.YtbnfgbcgpbdpcaaGreatDoor
open Go.RowKit Go.Shelf

theorem digL_minus {l : List UInt8} (hall : l.all isDig = true) (hz : ∀ b t, l = b :: t → (b == 48) = false) (hn : l ≠ []) : digL (45 :: l) = (l, true) := by
  have ht : Lib.trimPrefix (45 :: l) [45] = l := by simp [Lib.trimPrefix, Lib.hasPrefix, List.isPrefixOf]
  have hp : Lib.hasPrefix (45 :: l) [45] = true := by simp [Lib.hasPrefix, List.isPrefixOf]
  cases l with
  | nil => exact absurd rfl hn
  | cons b t =>
    unfold digL
    simp only [ht, hall, hp, if_true]
    rw [List.dropWhile_cons, hz b t rfl]
    rfl
theorem val_txtL (n : Int) : val (txtL n) = n := by
  by_cases h0 : n = 0
  · subst h0; decide +kernel
  · have hne : n.natAbs ≠ 0 := by omega
    obtain ⟨b, l, e, h1, h2⟩ := digs_head n.natAbs hne
    rw [txtL_digs]
    by_cases hn : n < 0
    · rw [if_pos hn]
      have h := digL_minus (l := digs n.natAbs) (digs_dig _) (fun c t e' => by rw [e] at e'; injection e' with e1 e2; rw [← e1]; exact h1) (by rw [e]; simp)
      unfold val
      rw [show ([45] ++ digs n.natAbs : List UInt8) = 45 :: digs n.natAbs from rfl, h]
      simp only [if_true, valD_digs]
      omega
    · rw [if_neg hn, List.nil_append]
      unfold val
      rw [canon_digs _ hne]
      simp only [Bool.false_eq_true, if_false, valD_digs]
      omega
theorem val_nil : val [] = 0 := by decide +kernel
theorem txtL_inj {m n : Int} (h : txtL m = txtL n) : m = n := by rw [← val_txtL m, h, val_txtL]
theorem txtL_nil {n : Int} : txtL n = [] ↔ n = 0 := ⟨fun h => by rw [← val_txtL n, h, val_nil], fun h => by rw [h]; rfl⟩
theorem val_lt (a : List UInt8) : (val a).natAbs < 10 ^ a.length := by
  have h1 := valD_lt (digL_ok a).1
  have h2 := digL_len a
  have h3 : 10 ^ (digL a).1.length ≤ 10 ^ a.length := Nat.pow_le_pow_right (by omega) h2
  unfold val
  split <;> omega
theorem digs_length {m L : Nat} : m < 10 ^ L → (digs m).length ≤ L := by
  induction L generalizing m with
  | zero => intro h; simp at h; subst h; simp [digs]
  | succ L ih =>
    intro h
    by_cases h0 : m = 0
    · subst h0; simp [digs]
    · rw [digs_step m h0, List.length_append, List.length_singleton]
      have := ih (m := m / 10) (by rw [Nat.pow_succ] at h; omega)
      omega
theorem txtL_length {n : Int} {L : Nat} (h : n.natAbs < 10 ^ L) : (txtL n).length ≤ L + 1 := by
  have := digs_length h
  rw [txtL_digs, List.length_append]
  split <;> simp <;> omega

/-- A fraction: two texts. -/
structure Fr where
  n : List UInt8
  d : List UInt8
deriving DecidableEq
theorem Fr.ext_ {f g : Fr} (h1 : f.n = g.n) (h2 : f.d = g.d) : f = g := by cases f; cases g; simp_all
def Fr.zero : Fr := ⟨[], []⟩
/-- The denominator's value: 1 if it is 0. -/
def Fr.dv (f : Fr) : Int := if val f.d = 0 then 1 else val f.d
theorem Fr.dv_ne (f : Fr) : f.dv ≠ 0 := by
  unfold Fr.dv
  split
  · omega
  · assumption
def Fr.rat (f : Fr) : Rat := Rat.divInt (val f.n) f.dv
/-- The canonical fraction of a rational number. -/
def frOf (q : Rat) : Fr := ⟨txtL q.num, if q.den = 1 then [] else txtL q.den⟩
theorem rat_frOf (q : Rat) : (frOf q).rat = q := by
  unfold Fr.rat Fr.dv frOf
  simp only [val_txtL]
  by_cases h : q.den = 1
  · rw [if_pos h, if_pos val_nil]
    have := Rat.num_divInt_den q
    rw [h] at this
    exact this
  · rw [if_neg h, val_txtL, if_neg (by have := q.den_nz; omega)]
    exact Rat.num_divInt_den q
theorem frOf_inj {p q : Rat} (h : frOf p = frOf q) : p = q := by rw [← rat_frOf p, h, rat_frOf]
theorem frOf_zero : frOf 0 = Fr.zero := rfl
theorem rat_zero : Fr.zero.rat = 0 := by rw [← frOf_zero, rat_frOf]
theorem frOf_zero_iff (q : Rat) : frOf q = Fr.zero ↔ q = 0 := by
  rw [← frOf_zero]
  exact ⟨frOf_inj, fun h => by rw [h]⟩
theorem rat_add (f g : Fr) : f.rat + g.rat = Rat.divInt (val f.n * g.dv + val g.n * f.dv) (f.dv * g.dv) := Rat.divInt_add_divInt _ _ f.dv_ne g.dv_ne
theorem rat_sub (f g : Fr) : f.rat - g.rat = Rat.divInt (val f.n * g.dv - val g.n * f.dv) (f.dv * g.dv) := Rat.divInt_sub_divInt _ _ f.dv_ne g.dv_ne
theorem rat_mul (f g : Fr) : f.rat * g.rat = Rat.divInt (val f.n * val g.n) (f.dv * g.dv) := Rat.divInt_mul_divInt _ _
theorem rat_div (f g : Fr) : f.rat / g.rat = Rat.divInt (val f.n * g.dv) (f.dv * val g.n) := by
  unfold Fr.rat
  rw [Rat.div_def, Rat.inv_divInt, Rat.divInt_mul_divInt]
theorem rat_eq_zero (f : Fr) : f.rat = 0 ↔ val f.n = 0 := by
  unfold Fr.rat
  constructor
  · intro h
    have h2 : Rat.divInt (val f.n) f.dv = Rat.divInt 0 1 := by rw [h]; rfl
    rw [Rat.divInt_eq_divInt_iff f.dv_ne (by omega)] at h2
    omega
  · intro h; rw [h, Rat.zero_divInt]

/-- Lowest terms. -/
theorem red_num (n d : Int) (hd : 0 < d) : Int.fdiv n (Int.gcd n d) = (Rat.divInt n d).num := by
  rw [Rat.num_divInt, Int.sign_eq_one_of_pos hd, Int.one_mul, Int.gcd_comm d n, Int.fdiv_eq_ediv_of_nonneg _ (by omega)]
theorem red_den (n d : Int) (hd : 0 < d) : Int.fdiv d (Int.gcd n d) = (Rat.divInt n d).den := by
  rw [Rat.den_divInt, if_neg (by omega), Int.gcd_comm d n, Int.fdiv_eq_ediv_of_nonneg _ (by omega), Int.natCast_ediv, Int.natAbs_of_nonneg (by omega)]
theorem gcd_pos (n d : Int) (hd : d ≠ 0) : (0 : Int) < Int.gcd n d := by
  have := Int.gcd_pos_of_ne_zero_right n hd
  omega
theorem divInt_num_le (n d : Int) : (Rat.divInt n d).num.natAbs ≤ n.natAbs := by
  rw [Rat.num_divInt]
  have h1 : (d.sign * n / (d.gcd n : Int)).natAbs ≤ (d.sign * n).natAbs := Int.natAbs_ediv_le_natAbs _ _
  have h2 : (d.sign * n).natAbs ≤ n.natAbs := by
    rw [Int.natAbs_mul]
    have : d.sign.natAbs ≤ 1 := by
      rcases Int.lt_trichotomy d 0 with h | h | h
      · rw [Int.sign_eq_neg_one_of_neg h]; decide
      · rw [h]; decide
      · rw [Int.sign_eq_one_of_pos h]; decide
    calc d.sign.natAbs * n.natAbs ≤ 1 * n.natAbs := Nat.mul_le_mul_right _ this
      _ = n.natAbs := Nat.one_mul _
  omega
theorem divInt_den_le (n d : Int) (hd : d ≠ 0) : (Rat.divInt n d).den ≤ d.natAbs := by
  rw [Rat.den_divInt, if_neg hd]
  exact Nat.div_le_self _ _

/-- Numerator and denominator have at most L digits. -/
def RB (L : Nat) (q : Rat) : Prop := q.num.natAbs < 10 ^ L ∧ q.den < 10 ^ L
theorem RB.more {L M : Nat} {q : Rat} (h : RB L q) (hLM : L ≤ M) : RB M q :=
  ⟨Nat.lt_of_lt_of_le h.1 (Nat.pow_le_pow_right (by omega) hLM), Nat.lt_of_lt_of_le h.2 (Nat.pow_le_pow_right (by omega) hLM)⟩
theorem RB.divInt {L : Nat} {n d : Int} (hn : n.natAbs < 10 ^ L) (hd : d.natAbs < 10 ^ L) (h0 : d ≠ 0) : RB L (Rat.divInt n d) :=
  ⟨Nat.lt_of_le_of_lt (divInt_num_le n d) hn, Nat.lt_of_le_of_lt (divInt_den_le n d h0) hd⟩
/-- A fraction whose texts have at most L bytes. -/
def Fr.Sz (L : Nat) (f : Fr) : Prop := f.n.length ≤ L ∧ f.d.length ≤ L
theorem Fr.dv_lt {f : Fr} {L : Nat} (h : f.d.length ≤ L) (hL : 1 ≤ L) : f.dv.natAbs < 10 ^ L := by
  unfold Fr.dv
  have h1 := val_lt f.d
  have h2 : 10 ^ f.d.length ≤ 10 ^ L := Nat.pow_le_pow_right (by omega) h
  have h3 : 10 ^ 1 ≤ 10 ^ L := Nat.pow_le_pow_right (by omega) hL
  split <;> omega
theorem val_lt' {a : List UInt8} {L : Nat} (h : a.length ≤ L) : (val a).natAbs < 10 ^ L :=
  Nat.lt_of_lt_of_le (val_lt a) (Nat.pow_le_pow_right (by omega) h)
theorem mul_lt_pow {a b : Int} {L M : Nat} (ha : a.natAbs < 10 ^ L) (hb : b.natAbs < 10 ^ M) : (a * b).natAbs < 10 ^ (L + M) := by
  rw [Int.natAbs_mul, Nat.pow_add]
  have h0 : 0 < 10 ^ M := Nat.pow_pos (by omega)
  rcases Nat.eq_zero_or_pos a.natAbs with h | h
  · rw [h, Nat.zero_mul]; exact Nat.mul_pos (Nat.pow_pos (by omega)) h0
  · exact Nat.lt_of_lt_of_le (Nat.mul_lt_mul_of_pos_left hb h) (Nat.mul_le_mul_right _ (Nat.le_of_lt ha))
theorem add_lt_pow {a b : Int} {L : Nat} (ha : a.natAbs < 10 ^ L) (hb : b.natAbs < 10 ^ L) : (a + b).natAbs < 10 ^ (L + 1) := by
  rw [Nat.pow_succ]; omega
theorem sub_lt_pow {a b : Int} {L : Nat} (ha : a.natAbs < 10 ^ L) (hb : b.natAbs < 10 ^ L) : (a - b).natAbs < 10 ^ (L + 1) := by
  rw [Nat.pow_succ]; omega
theorem frOf_sz {q : Rat} {L : Nat} (h : RB L q) : (frOf q).Sz (L + 1) := by
  refine ⟨txtL_length h.1, ?_⟩
  unfold frOf
  simp only
  split
  · simp
  · exact txtL_length (by simpa using h.2)
theorem sz_rb {f : Fr} {L : Nat} (h : f.Sz L) (hL : 1 ≤ L) : RB L f.rat := RB.divInt (val_lt' h.1) (Fr.dv_lt h.2 hL) f.dv_ne
theorem Fr.Sz.more {f : Fr} {L M : Nat} (h : f.Sz L) (hLM : L ≤ M) : f.Sz M := ⟨Nat.le_trans h.1 hLM, Nat.le_trans h.2 hLM⟩
theorem rb_add {f g : Fr} {L : Nat} (hf : f.Sz L) (hg : g.Sz L) (hL : 1 ≤ L) : RB (L + L + 1) (f.rat + g.rat) := by
  rw [rat_add]
  have h0 := Int.mul_ne_zero f.dv_ne g.dv_ne
  refine RB.divInt (add_lt_pow (mul_lt_pow (val_lt' hf.1) (Fr.dv_lt hg.2 hL)) (mul_lt_pow (val_lt' hg.1) (Fr.dv_lt hf.2 hL))) ?_ h0
  exact Nat.lt_of_lt_of_le (mul_lt_pow (Fr.dv_lt hf.2 hL) (Fr.dv_lt hg.2 hL)) (Nat.pow_le_pow_right (by omega) (by omega))
theorem rb_sub {f g : Fr} {L : Nat} (hf : f.Sz L) (hg : g.Sz L) (hL : 1 ≤ L) : RB (L + L + 1) (f.rat - g.rat) := by
  rw [rat_sub]
  have h0 := Int.mul_ne_zero f.dv_ne g.dv_ne
  refine RB.divInt (sub_lt_pow (mul_lt_pow (val_lt' hf.1) (Fr.dv_lt hg.2 hL)) (mul_lt_pow (val_lt' hg.1) (Fr.dv_lt hf.2 hL))) ?_ h0
  exact Nat.lt_of_lt_of_le (mul_lt_pow (Fr.dv_lt hf.2 hL) (Fr.dv_lt hg.2 hL)) (Nat.pow_le_pow_right (by omega) (by omega))
theorem rb_mul {f g : Fr} {L : Nat} (hf : f.Sz L) (hg : g.Sz L) (hL : 1 ≤ L) : RB (L + L) (f.rat * g.rat) := by
  rw [rat_mul]
  exact RB.divInt (mul_lt_pow (val_lt' hf.1) (val_lt' hg.1)) (mul_lt_pow (Fr.dv_lt hf.2 hL) (Fr.dv_lt hg.2 hL)) (Int.mul_ne_zero f.dv_ne g.dv_ne)
theorem rb_div {f g : Fr} {L : Nat} (hf : f.Sz L) (hg : g.Sz L) (hL : 1 ≤ L) (h : val g.n ≠ 0) : RB (L + L) (f.rat / g.rat) := by
  rw [rat_div]
  exact RB.divInt (mul_lt_pow (val_lt' hf.1) (Fr.dv_lt hg.2 hL)) (mul_lt_pow (Fr.dv_lt hf.2 hL) (val_lt' hg.1)) (Int.mul_ne_zero f.dv_ne h)

/-- The sign of a comparison. -/
def cmpR (x y : Rat) : Int := if x < y then -1 else if y < x then 1 else 0
def sgnI (n : Int) : Int := if n < 0 then -1 else if 0 < n then 1 else 0
theorem lt_divInt (a c : Int) {b d : Int} (hb : 0 < b) (hd : 0 < d) : Rat.divInt a b < Rat.divInt c d ↔ a * d < c * b := by
  have hb' : (0 : Rat) < (b : Rat) := by exact_mod_cast hb
  have hd' : (0 : Rat) < (d : Rat) := by exact_mod_cast hd
  rw [Rat.divInt_eq_div, Rat.divInt_eq_div, Rat.div_lt_iff hb', Rat.div_def c, Rat.mul_assoc, Rat.mul_comm _ (b : Rat), ← Rat.mul_assoc, ← Rat.div_def, Rat.lt_div_iff hd']
  exact_mod_cast Iff.rfl
theorem cmpR_divInt (a c : Int) {b d : Int} (hb : 0 < b) (hd : 0 < d) : cmpR (Rat.divInt a b) (Rat.divInt c d) = sgnI (a * d - c * b) := by
  unfold cmpR sgnI
  simp only [lt_divInt a c hb hd, lt_divInt c a hd hb]
  have e1 : a * d - c * b < 0 ↔ a * d < c * b := by omega
  have e2 : 0 < a * d - c * b ↔ c * b < a * d := by omega
  simp only [e1, e2]
theorem cmpR_sub (x y : Rat) : cmpR x y = sgnI (x - y).num := by
  unfold cmpR sgnI
  have e1 : (x - y).num < 0 ↔ x < y := by
    have h := Rat.num_nonneg (q := x - y)
    have h2 := Rat.le_iff_sub_nonneg y x
    rw [← Rat.not_le, h2, ← h]
    omega
  have e2 : 0 < (x - y).num ↔ y < x := by
    have h := Rat.num_nonneg (q := y - x)
    have h2 := Rat.le_iff_sub_nonneg x y
    rw [← Rat.not_le, h2, ← h, ← Rat.neg_sub x y, Rat.neg_num]
    omega
  simp only [e1, e2]
/-- Is the fraction canonical? -/
def Fr.ok (f : Fr) : Prop := f = frOf f.rat
instance (f : Fr) : Decidable f.ok := inferInstanceAs (Decidable (f = frOf f.rat))
theorem frOf_ok (q : Rat) : (frOf q).ok := by unfold Fr.ok; rw [rat_frOf]
end Go.Proofs.YtbnfgbcgpbdpcaaGreatDoor
/- Contracts of integer's magnitude.divide, Mul, Neg, Compare. -/
namespace Go.Proofs.YtbnfgbcgpbdpcaaGreatDoor
open Go.RowKit Go.Shelf

theorem divide_any (A A' : Option Addr) (n m c c' : Nat) (xs ys : List Nat) (u v : Nat) (w : World) (hx : Gr w w.heap.size A n xs) (hy : Gr w w.heap.size A' m ys) (mx : Mag xs u) (my : Mag ys v) (hn : n ≤ 100000) (hm : m ≤ 100000) (hc : n ≤ c) (hv : 0 < v) :
    Calls Tryz.prog 89 #[.slice A n c, .slice A' m c'] w (DivPost (u / v) (u % v) w) := by
  rcases Nat.lt_or_ge u v with h | h
  · exact divide_less A A' n m c c' xs ys u v w hx hy mx my (by omega) (by omega) hc h
  · match m, hy, hm with
    | 0, hy, _ =>
      have := my.nil_iff.1 (List.eq_nil_of_length_eq_zero hy.1.symm)
      omega
    | 1, hy, _ => exact divide_one A A' n c c' xs ys u v w hx hy mx my (by omega) h
    | m + 2, hy, hm => exact divide_many A A' n (m + 2) c c' xs ys u v w hx hy mx my hn hm (by omega) h
theorem sv_mul (a b : Bool) (u v : Nat) : sv (a != b) (u * v) = sv a u * sv b v := by
  cases a <;> cases b <;> simp [sv, Int.neg_mul, Int.mul_neg]
set_option maxRecDepth 20000 in
set_option maxHeartbeats 600000 in
theorem Mul_any (a b : List UInt8) (w : World) (hp : Pow w) (ha : a.length ≤ 100000) (hb : b.length ≤ 100000) : Calls Tryz.prog 90 #[S a, S b] w (StrPost (txtL (val a * val b)) w) := by
  have HRa := Lib.hid (read_any a w (by omega))
  have HRb := Lib.hid (fun W => read_any b W (by omega))
  obtain ⟨K, hK⟩ : ∃ K : Nat, K = 100000 := ⟨_, rfl⟩
  have hva := valD_small (show a.length ≤ K by omega)
  have hvb := valD_small (show b.length ≤ K by omega)
  have HK := Lib.hid hK; clear hK
  have HS := Lib.hid (show sv ((digL a).2 != (digL b).2) (valD (digL a).1 * valD (digL b).1) = val a * val b by rw [sv_mul, sv_val, sv_val])
  have HPO := Lib.hid (show StrPost (txtL (val a * val b)) w = fun e w' => e = .returned (S (txtL (val a * val b))) ∧ Below w.heap.size w w' from rfl)
  unfold ReadPost at HRa HRb
  have HVA := Lib.hid hva; have HVB := Lib.hid hvb; have HP := Lib.hid hp
  generalize StrPost (txtL (val a * val b)) w = post at *
  generalize (digL a).2 = na at *
  generalize (digL b).2 = nb at *
  generalize valD (digL a).1 = u at *
  generalize valD (digL b).1 = v at *
  have HUV := Lib.hid (show u * v < 1000000000 ^ (K + K) by rw [Nat.pow_add]; exact Nat.mul_lt_mul'' hva hvb)
  clear ha hb hva hvb hp
  unfold S at *
  go_enter Tryz.func90, Tryz.ntmps90
  go_wp2_with fail
  refine HRa.out.mono ?_
  rintro e w1 ⟨A1, n1, c1, xs, rfl, ho1, mg1, hb1⟩
  have HO1 := Lib.hid ho1; have HM1 := Lib.hid mg1; clear ho1 mg1 HRa
  go_wp2_with fail
  refine (HRb.out _).mono ?_
  rintro e w2 ⟨A2, n2, c2, ys, rfl, ho2, mg2, hb2⟩
  have HO2 := Lib.hid ho2; have HM2 := Lib.hid mg2; clear ho2 mg2 HRb
  have HX1 := Lib.hid ((HO1.out.below hb2).sl U1_len)
  have HX2 := Lib.hid (HO2.out.sl U1_len)
  have HL1 := Lib.hid (show n1 ≤ K by rw [HX1.out.1]; exact HM1.out.len HVA.out)
  have HL2 := Lib.hid (show n2 ≤ K by rw [HX2.out.1]; exact HM2.out.len HVB.out)
  have hb02 := hb1.trans (hb2.mono hb1.size)
  go_wp2_with fail
  have hN1 : NumB ((w2.alloc (.cells #[.bool na, .slice A1 n1 c1] 73)).alloc (.cells #[.bool nb, .slice A2 n2 c2] 73)) w2.heap.size na A1 n1 c1 := (NumB.new w2 na A1 n1 c1).alloc _
  have hN2 : NumB ((w2.alloc (.cells #[.bool na, .slice A1 n1 c1] 73)).alloc (.cells #[.bool nb, .slice A2 n2 c2] 73)) (w2.heap.size + 1) nb A2 n2 c2 := by
    have := NumB.new (w2.alloc (.cells #[.bool na, .slice A1 n1 c1] 73)) nb A2 n2 c2
    simpa using this
  have hbA : Below w2.heap.size w2 ((w2.alloc (.cells #[.bool na, .slice A1 n1 c1] 73)).alloc (.cells #[.bool nb, .slice A2 n2 c2] 73)) := ((Below.refl _ _).alloc (Nat.le_refl _) _).alloc (by simp) _
  have HX1' := Lib.hid (HX1.out.here hbA); have HX2' := Lib.hid (HX2.out.here hbA)
  have hb0A := hb02.trans (hbA.mono hb02.size)
  obtain ⟨x0, x1⟩ := hN1.cells
  obtain ⟨y0, y1⟩ := hN2.cells
  have HN1 := Lib.hid hN1; have HN2 := Lib.hid hN2
  clear hN1 hN2 hbA HX1 HX2 HO1 HO2
  generalize (w2.alloc (.cells #[.bool na, .slice A1 n1 c1] 73)).alloc (.cells #[.bool nb, .slice A2 n2 c2] 73) = W at *
  have HTM := Lib.hid (times_any A1 A2 n1 n2 c1 c2 xs ys u v W.drew HX1'.out.drew HX2'.out.drew HM1.out HM2.out (by have := HL1.out; have := HK.out; omega) (by have := HL2.out; have := HK.out; omega))
  go_region_held3 (fun w' => w'.cell? ⟨w2.heap.size, 0, none⟩ = some (.bool na) ∧ w'.cell? ⟨w2.heap.size, 1, none⟩ = some (.slice A1 n1 c1) ∧ w'.cell? ⟨w2.heap.size + 1, 0, none⟩ = some (.bool nb) ∧ w'.cell? ⟨w2.heap.size + 1, 1, none⟩ = some (.slice A2 n2 c2))
    (first
      | exact ⟨x0, x1, y0, y1⟩
      | exact ⟨(HN1.out.here hbz).cells.1, (HN1.out.here hbz).cells.2, (HN2.out.here hbz).cells.1, (HN2.out.here hbz).cells.2⟩
      | exact ⟨(HN1.out.here hbz4).cells.1, (HN1.out.here hbz4).cells.2, (HN2.out.here hbz4).cells.1, (HN2.out.here hbz4).cells.2⟩)
    (first
    | (go_at_call 127; refine HTM.out.mono ?_; rintro e w3 ⟨A3, n3, c3, zs, rfl, ho3, mg3, hb3⟩
       have hbz : Below W.heap.size W w3 := (Below.refl _ W).drew.trans hb3
       have HX3 := Lib.hid (ho3.sl U1_len)
       have HL3 := Lib.hid (show n3 ≤ K + K by rw [HX3.out.1]; exact mg3.len HUV.out)
       have hcap : n3 ≤ c3 := by obtain ⟨h1, h2, _⟩ := ho3.facts; omega
       have hb03 := hb0A.trans (hbz.mono hb0A.size)
       have HTX := Lib.hid (text_any (na != nb) A3 n3 c3 zs w3 HX3.out mg3.gs hcap (by have := HL3.out; have := HK.out; omega) (HP.out.here hb03))
       rw [mg3.val, numT_sv, HS.out] at HTX
       unfold S at HTX
       clear ho3 mg3 hb3)
    | (go_at_call 37; refine HTX.out.mono ?_; rintro e w4 ⟨rfl, hb4⟩; have hbz4 := hbz.trans (hb4.mono hbz.size)))
  all_goals
    go_wp2_with fail
    rw [HPO.out]
    exact ⟨rfl, hb03.trans (hb4.mono hb03.size)⟩
set_option maxRecDepth 20000 in
set_option maxHeartbeats 2000000 in
theorem Neg_any (a : List UInt8) (w : World) (hp : Pow w) (ha : a.length ≤ 100000) : Calls Tryz.prog 124 #[S a] w (StrPost (txtL (-val a)) w) := by
  have HRa := Lib.hid (read_any a w (by omega))
  obtain ⟨K, hK⟩ : ∃ K : Nat, K = 100000 := ⟨_, rfl⟩
  have hva := valD_small (show a.length ≤ K by omega)
  have HK := Lib.hid hK; clear hK
  have HS := Lib.hid (show sv (!(digL a).2) (valD (digL a).1) = -val a by rw [sv_not, sv_val])
  have HPO := Lib.hid (show StrPost (txtL (-val a)) w = fun e w' => e = .returned (S (txtL (-val a))) ∧ Below w.heap.size w w' from rfl)
  unfold ReadPost at HRa
  have HVA := Lib.hid hva; have HP := Lib.hid hp
  generalize StrPost (txtL (-val a)) w = post at *
  generalize (digL a).2 = na at *
  generalize valD (digL a).1 = u at *
  clear ha hva hp
  unfold S at *
  go_enter Tryz.func124, Tryz.ntmps124
  go_wp2_with fail
  refine HRa.out.mono ?_
  rintro e w1 ⟨A1, n1, c1, xs, rfl, ho1, mg1, hb1⟩
  have hbA := (Below.refl w1.heap.size w1).alloc (Nat.le_refl _) (.cells #[.bool (!na), .slice A1 n1 c1] 73)
  have HX1 := Lib.hid ((ho1.below hbA).sl U1_len)
  have HM1 := Lib.hid mg1
  have HL1 := Lib.hid (show n1 ≤ K by rw [HX1.out.1]; exact mg1.len HVA.out)
  have hcap : n1 ≤ c1 := by obtain ⟨h1, h2, _⟩ := ho1.facts; omega
  have hb0A := hb1.trans (hbA.mono hb1.size)
  have HTX := Lib.hid (text_any (!na) A1 n1 c1 xs (w1.alloc (.cells #[.bool (!na), .slice A1 n1 c1] 73)) HX1.out HM1.out.gs hcap (by have := HL1.out; have := HK.out; omega) (HP.out.here hb0A))
  rw [HM1.out.val, numT_sv, HS.out] at HTX
  unfold S at HTX
  clear ho1 mg1
  go_wp2_with fail
  refine HTX.out.mono ?_
  rintro e w4 ⟨rfl, hb4⟩
  go_wp2_with fail
  rw [HPO.out]
  exact ⟨rfl, hb0A.trans (hb4.mono hb0A.size)⟩
end Go.Proofs.YtbnfgbcgpbdpcaaGreatDoor
/- Contracts of integer.Compare and integer.Div. -/
namespace Go.Proofs.YtbnfgbcgpbdpcaaGreatDoor
open Go.RowKit Go.Shelf

theorem sv_neg (a : List UInt8) : (digL a).2 = true → val a < 0 := by
  intro h
  rw [neg_val] at h
  simpa using h
theorem cmp_sv {x y : Int} {na nb : Bool} {u v : Nat} {r : Int} (hx : x = sv na u) (hy : y = sv nb v) (hxn : na = true → x < 0) (hyn : nb = true → y < 0) (h1 : r < 0 ↔ u < v) (h2 : 0 < r ↔ v < u) :
    (na = true ∧ nb = false → sgnI (x - y) = -1) ∧ (na = false ∧ nb = true → sgnI (x - y) = 1) ∧ (na = true ∧ nb = true → sgnI (x - y) = max (-1) (min (-r) 1)) ∧ (na = false ∧ nb = false → sgnI (x - y) = max (-1) (min r 1)) := by
  unfold sgnI
  cases na <;> cases nb <;> simp [sv] at hx hy hxn hyn ⊢ <;> (repeat' split) <;> omega
/-- What Compare gives. -/
def CmpIPost (s : Int) (w : World) (e : Ending) (w' : World) : Prop := e = .returned (.int .i64 s) ∧ Below w.heap.size w w'
set_option maxRecDepth 20000 in
set_option maxHeartbeats 1000000 in
theorem Compare_any (a b : List UInt8) (w : World) (ha : a.length ≤ 100000) (hb : b.length ≤ 100000) : Calls Tryz.prog 41 #[S a, S b] w (CmpIPost (sgnI (val a - val b)) w) := by
  have HRa := Lib.hid (read_any a w (by omega))
  have HRb := Lib.hid (fun W => read_any b W (by omega))
  obtain ⟨K, hK⟩ : ∃ K : Nat, K = 100000 := ⟨_, rfl⟩
  have hva := valD_small (show a.length ≤ K by omega)
  have hvb := valD_small (show b.length ≤ K by omega)
  have HK := Lib.hid hK; clear hK
  have HS := Lib.hid (fun (r : Int) => cmp_sv (r := r) (sv_val a).symm (sv_val b).symm (sv_neg a) (sv_neg b))
  have HPO := Lib.hid (show CmpIPost (sgnI (val a - val b)) w = fun e w' => e = .returned (.int .i64 (sgnI (val a - val b))) ∧ Below w.heap.size w w' from rfl)
  unfold ReadPost at HRa HRb
  have HVA := Lib.hid hva; have HVB := Lib.hid hvb
  generalize CmpIPost (sgnI (val a - val b)) w = post at *
  generalize sgnI (val a - val b) = res at *
  generalize (digL a).2 = na at *
  generalize (digL b).2 = nb at *
  generalize valD (digL a).1 = u at *
  generalize valD (digL b).1 = v at *
  clear ha hb hva hvb
  unfold S at *
  go_enter Tryz.func41, Tryz.ntmps41
  go_wp2_with fail
  refine HRa.out.mono ?_
  rintro e w1 ⟨A1, n1, c1, xs, rfl, ho1, mg1, hb1⟩
  have HO1 := Lib.hid ho1; have HM1 := Lib.hid mg1; clear ho1 mg1 HRa
  go_wp2_with fail
  refine (HRb.out _).mono ?_
  rintro e w2 ⟨A2, n2, c2, ys, rfl, ho2, mg2, hb2⟩
  have HO2 := Lib.hid ho2; have HM2 := Lib.hid mg2; clear ho2 mg2 HRb
  have HX1 := Lib.hid ((HO1.out.below hb2).sl U1_len)
  have HX2 := Lib.hid (HO2.out.sl U1_len)
  have HL1 := Lib.hid (show n1 ≤ K by rw [HX1.out.1]; exact HM1.out.len HVA.out)
  have HL2 := Lib.hid (show n2 ≤ K by rw [HX2.out.1]; exact HM2.out.len HVB.out)
  have hb02 := hb1.trans (hb2.mono hb1.size)
  have hN1 : NumB ((w2.alloc (.cells #[.bool na, .slice A1 n1 c1] 73)).alloc (.cells #[.bool nb, .slice A2 n2 c2] 73)) w2.heap.size na A1 n1 c1 := (NumB.new w2 na A1 n1 c1).alloc _
  have hN2 : NumB ((w2.alloc (.cells #[.bool na, .slice A1 n1 c1] 73)).alloc (.cells #[.bool nb, .slice A2 n2 c2] 73)) (w2.heap.size + 1) nb A2 n2 c2 := by
    have := NumB.new (w2.alloc (.cells #[.bool na, .slice A1 n1 c1] 73)) nb A2 n2 c2
    simpa using this
  have hbA : Below w2.heap.size w2 ((w2.alloc (.cells #[.bool na, .slice A1 n1 c1] 73)).alloc (.cells #[.bool nb, .slice A2 n2 c2] 73)) := ((Below.refl _ _).alloc (Nat.le_refl _) _).alloc (by simp) _
  have HX1' := Lib.hid (HX1.out.here hbA); have HX2' := Lib.hid (HX2.out.here hbA)
  have hb0A := hb02.trans (hbA.mono hb02.size)
  have HN1 := Lib.hid hN1; have HN2 := Lib.hid hN2
  clear hN1 hN2 hbA HX1 HX2 HO1 HO2
  go_wp2_with fail
  generalize (w2.alloc (.cells #[.bool na, .slice A1 n1 c1] 73)).alloc (.cells #[.bool nb, .slice A2 n2 c2] 73) = W at *
  (with_reducible refine (compare_any A1 A2 n1 n2 c1 c2 xs ys u v W HX1'.out HX2'.out HM1.out HM2.out (by have := HL1.out; have := HK.out; omega) (by have := HL2.out; have := HK.out; omega)).mono ?_)
  rintro e w3 ⟨r, rfl, hr1, hr2, hr3, hr4, hb3⟩
  have x0 := (HN1.out.here hb3).cells.1
  have y0 := (HN2.out.here hb3).cells.1
  have HR := Lib.hid (HS.out r hr1 hr2)
  have hb03 := hb0A.trans (hb3.mono hb0A.size)
  clear hr1 hr2 HS
  cases na <;> cases nb
  all_goals
    go_wp2_with fail
    rw [HPO.out]
    refine ⟨?_, hb03⟩
    simp at HR
    rw [HR.out]
    rfl
theorem fdiv_sv (na nb : Bool) (u v : Nat) (hv : 0 < v) :
    (na = nb ∨ u % v = 0 → (sv na u).fdiv (sv nb v) = sv (na != nb) (u / v) ∧ (sv na u).fmod (sv nb v) = sv nb (u % v)) ∧
    (na ≠ nb ∧ 0 < u % v → (sv na u).fdiv (sv nb v) = sv (na != nb) (u / v + 1) ∧ (sv na u).fmod (sv nb v) = sv nb (v - u % v)) := by
  have hdm := Nat.div_add_mod u v
  have hlt := Nat.mod_lt u hv
  generalize u / v = q at *
  generalize u % v = r at *
  have hu : (u : Int) = (v : Int) * q + r := by rw [← hdm]; simp
  clear hdm
  have key : ∀ (a b x y : Int), b = v ∨ b = -(v : Int) → y + b * x = a → (0 ≤ y ∧ y < b ∨ b < y ∧ y ≤ 0) → a.fdiv b = x ∧ a.fmod b = y := by
    intro a b x y hb he hr
    rcases hr with ⟨h1, h2⟩ | ⟨h1, h2⟩
    · exact (Int.fdiv_fmod_unique (by omega)).2 ⟨he, h1, h2⟩
    · exact (Int.fdiv_fmod_unique' (by omega)).2 ⟨he, h1, h2⟩
  constructor
  · intro h
    refine key _ _ _ _ (by cases nb <;> simp [sv]) ?_ ?_
    · cases na <;> cases nb <;> simp [sv, Int.mul_neg, Int.neg_mul] at h ⊢ <;> (try subst h) <;> (try simp at hu) <;> omega
    · cases nb <;> simp [sv] <;> omega
  · rintro ⟨h, h0⟩
    refine key _ _ _ _ (by cases nb <;> simp [sv]) ?_ ?_
    · cases na <;> cases nb <;> simp [sv, Int.mul_neg, Int.neg_mul, Int.mul_add] at h ⊢ <;> omega
    · cases nb <;> simp [sv] <;> omega
/-- What Div gives. -/
def Div3Post (a b : Int) (w : World) (e : Ending) (w' : World) : Prop :=
  e = .returned (if b = 0 then .tuple #[S [], S [], .int .i64 10] else .tuple #[S (txtL (a.fdiv b)), S (txtL (a.fmod b)), .int .i64 0]) ∧ Below w.heap.size w w'
theorem valD_zero (a : List UInt8) : valD (digL a).1 = 0 ↔ val a = 0 := by
  rw [← sv_val]
  cases (digL a).2 <;> simp [sv]
end Go.Proofs.YtbnfgbcgpbdpcaaGreatDoor
