/- Magnitudes (groups of nine digits, the lowest first) and the values of texts, plain. -/
import Derived.Test.YtaiikjgoofefgaaGreatDoorQG1s1
namespace Go.Proofs.YtaiikjgoofefgaaGreatDoor
open Go.RowKit Go.Shelf

/-- The value of groups. -/
def gv : List Nat → Nat
  | [] => 0
  | x :: xs => x + 1000000000 * gv xs
def Gs (xs : List Nat) : Prop := ∀ x ∈ xs, x < 1000000000
def Nz (xs : List Nat) : Prop := xs.getLast? ≠ some 0
structure Mag (xs : List Nat) (v : Nat) : Prop where
  gs : Gs xs
  nz : Nz xs
  val : gv xs = v
theorem gv_append (xs ys : List Nat) : gv (xs ++ ys) = gv xs + 1000000000 ^ xs.length * gv ys := by
  induction xs with
  | nil => simp [gv]
  | cons x xs ih =>
    rw [List.cons_append, gv, ih, gv, List.length_cons, Nat.pow_succ, Nat.mul_add, Nat.add_assoc, ← Nat.mul_assoc, Nat.mul_comm (1000000000 ^ xs.length) 1000000000]
theorem gv_snoc (xs : List Nat) (g : Nat) : gv (xs ++ [g]) = gv xs + 1000000000 ^ xs.length * g := by rw [gv_append]; simp [gv]
theorem Gs.nil : Gs [] := fun x hx => by cases hx
theorem Gs.snoc {xs : List Nat} {g : Nat} (h : Gs xs) (hg : g < 1000000000) : Gs (xs ++ [g]) := fun x hx => by
  rcases List.mem_append.1 hx with h1 | h1
  · exact h x h1
  · simp at h1; rw [h1]; exact hg
theorem Gs.take {xs : List Nat} (h : Gs xs) (k : Nat) : Gs (xs.take k) := fun x hx => h x (List.mem_of_mem_take hx)
theorem Gs.at_ {xs : List Nat} (h : Gs xs) {i g : Nat} (hi : xs[i]? = some g) : g < 1000000000 := h g (List.mem_of_getElem? hi)
theorem gv_lt {xs : List Nat} (h : Gs xs) : gv xs < 1000000000 ^ xs.length := by
  induction xs with
  | nil => simp [gv]
  | cons x xs ih =>
    have h1 := ih (fun y hy => h y (by simp [hy]))
    have h2 := h x (by simp)
    rw [gv, List.length_cons, Nat.pow_succ]
    omega
theorem gv_top {xs : List Nat} (hn : xs ≠ []) (h : Nz xs) : 1000000000 ^ (xs.length - 1) ≤ gv xs := by
  obtain ⟨ys, g, rfl⟩ : ∃ ys g, xs = ys ++ [g] := ⟨xs.dropLast, xs.getLast hn, (List.dropLast_concat_getLast hn).symm⟩
  have hg : g ≠ 0 := fun e => h (by rw [e]; simp)
  rw [gv_snoc, List.length_append, List.length_singleton, Nat.add_sub_cancel]
  exact Nat.le_trans (Nat.le_mul_of_pos_right _ (by omega)) (Nat.le_add_left _ _)
theorem gv_take (xs : List Nat) (i : Nat) (g : Nat) (h : xs[i]? = some g) : gv (xs.take (i + 1)) = gv (xs.take i) + 1000000000 ^ i * g := by
  obtain ⟨hi, rfl⟩ := List.getElem?_eq_some_iff.1 h
  rw [List.take_succ_eq_append_getElem hi, gv_snoc, List.length_take, Nat.min_eq_left (by omega)]
theorem gv_drop (xs : List Nat) (i : Nat) (g : Nat) (h : xs[i]? = some g) : gv (xs.drop i) = g + 1000000000 * gv (xs.drop (i + 1)) := by
  obtain ⟨hi, rfl⟩ := List.getElem?_eq_some_iff.1 h
  rw [List.drop_eq_getElem_cons hi, gv]
theorem gv_split (xs : List Nat) (i : Nat) (hi : i ≤ xs.length) : gv xs = gv (xs.take i) + 1000000000 ^ i * gv (xs.drop i) := by
  have := gv_append (xs.take i) (xs.drop i)
  rw [List.take_append_drop, List.length_take, Nat.min_eq_left hi] at this
  exact this
theorem Mag.zero : Mag [] 0 := ⟨Gs.nil, by unfold Nz; simp, rfl⟩
theorem Mag.nil_iff {xs : List Nat} {v : Nat} (h : Mag xs v) : xs = [] ↔ v = 0 := by
  constructor
  · rintro rfl; exact h.val.symm
  · intro hv
    by_cases hn : xs = []
    · exact hn
    · have := gv_top hn h.nz
      rw [h.val, hv] at this
      have := Nat.pow_pos (n := xs.length - 1) (show 0 < 1000000000 by decide)
      omega
/-- How many groups a value has, at most. -/
theorem Mag.len {xs : List Nat} {v k : Nat} (h : Mag xs v) (hv : v < 1000000000 ^ k) : xs.length ≤ k := by
  by_cases hn : xs = []
  · rw [hn]; simp
  · have h1 := gv_top hn h.nz
    rw [h.val] at h1
    have h2 := Nat.lt_of_le_of_lt h1 hv
    have := (Nat.pow_lt_pow_iff_right (show 1 < 1000000000 by decide)).1 h2
    omega

theorem snoc_ind {α : Type} {P : List α → Prop} (h0 : P []) (h1 : ∀ l b, P l → P (l ++ [b])) (l : List α) : P l := by
  have : ∀ l : List α, P l.reverse := by
    intro l
    induction l with
    | nil => exact h0
    | cons a l ih => rw [List.reverse_cons]; exact h1 _ _ ih
  have h := this l.reverse
  rwa [List.reverse_reverse] at h
/-- The value of a row of digits. -/
def valD (l : List UInt8) : Nat := l.foldl (fun n b => 10 * n + (b.toNat - 48)) 0
theorem valD_foldl (l : List UInt8) (n : Nat) : l.foldl (fun n b => 10 * n + (b.toNat - 48)) n = n * 10 ^ l.length + valD l := by
  induction l generalizing n with
  | nil => simp [valD]
  | cons b l ih =>
    have e : valD (b :: l) = (10 * 0 + (b.toNat - 48)) * 10 ^ l.length + valD l := by unfold valD; rw [List.foldl_cons]; exact ih _
    rw [List.foldl_cons, ih, e, List.length_cons, Nat.pow_succ, Nat.add_mul, Nat.mul_comm 10 n, Nat.mul_assoc, Nat.mul_comm 10 (10 ^ l.length), Nat.mul_zero, Nat.zero_add, Nat.add_assoc]
theorem valD_append (l l' : List UInt8) : valD (l ++ l') = valD l * 10 ^ l'.length + valD l' := by
  unfold valD
  rw [List.foldl_append, valD_foldl]
  rfl
theorem valD_snoc (l : List UInt8) (b : UInt8) : valD (l ++ [b]) = 10 * valD l + (b.toNat - 48) := by
  rw [valD_append, Nat.mul_comm]; simp [valD]
theorem isDig_iff (b : UInt8) : isDig b = true ↔ 48 ≤ b.toNat ∧ b.toNat ≤ 57 := by
  unfold isDig
  simp [UInt8.le_iff_toNat_le]
theorem valD_lt {l : List UInt8} : l.all isDig = true → valD l < 10 ^ l.length := by
  refine snoc_ind (P := fun l => l.all isDig = true → valD l < 10 ^ l.length) ?_ ?_ l
  · intro _; simp [valD]
  · intro l b ih h
    rw [List.all_append] at h
    simp only [List.all_cons, List.all_nil, Bool.and_true, Bool.and_eq_true] at h
    have h1 := ih h.1
    have h2 := (isDig_iff b).1 h.2
    rw [valD_snoc, List.length_append, List.length_singleton, Nat.pow_succ]
    omega
theorem byte_dig (b : UInt8) (h : isDig b = true) : UInt8.ofNat (48 + (b.toNat - 48)) = b := by
  have h2 := (isDig_iff b).1 h
  rw [show 48 + (b.toNat - 48) = b.toNat by omega]
  simp
theorem valD_head {b : UInt8} {l : List UInt8} (h : (b :: l).all isDig = true) (hb : (b == 48) = false) : valD (b :: l) ≠ 0 := by
  have h1 : isDig b = true := by simp at h; exact h.1
  have h2 := (isDig_iff b).1 h1
  have h3 : b.toNat ≠ 48 := fun e => by
    have : b = 48 := UInt8.toNat_inj.1 e
    rw [this] at hb; simp at hb
  unfold valD
  rw [List.foldl_cons, valD_foldl]
  have := Nat.pow_pos (n := l.length) (show 0 < 10 by decide)
  have : 0 < (10 * 0 + (b.toNat - 48)) * 10 ^ l.length := Nat.mul_pos (by omega) this
  omega
/-- The digits of a row's value are the row, if it does not begin with 0. -/
theorem digs_valD {l : List UInt8} : l.all isDig = true → (∀ b t, l = b :: t → (b == 48) = false) → digs (valD l) = l := by
  refine snoc_ind (P := fun l => l.all isDig = true → (∀ b t, l = b :: t → (b == 48) = false) → digs (valD l) = l) ?_ ?_ l
  · intro _ _; simp [valD, digs]
  · intro l b ih h hz
    have h' := h
    rw [List.all_append] at h
    simp only [List.all_cons, List.all_nil, Bool.and_true, Bool.and_eq_true] at h
    have h2 := (isDig_iff b).1 h.2
    have hne : valD (l ++ [b]) ≠ 0 := by
      cases l with
      | nil => exact valD_head h' (hz b [] rfl)
      | cons c t => exact valD_head h' (hz c (t ++ [b]) rfl)
    rw [digs_step _ hne, valD_snoc, show (10 * valD l + (b.toNat - 48)) / 10 = valD l by omega, show (10 * valD l + (b.toNat - 48)) % 10 = b.toNat - 48 by omega, byte_dig b h.2, ih h.1 (fun c t e => hz c (t ++ [b]) (by rw [e]; rfl))]
theorem valD_digs (m : Nat) : valD (digs m) = m := by
  induction m using Nat.strongRecOn with
  | _ m ih =>
    by_cases h : m = 0
    · subst h; rfl
    · rw [digs_step m h, valD_snoc, ih (m / 10) (by omega)]
      have : (UInt8.ofNat (48 + m % 10)).toNat = 48 + m % 10 := by simp; omega
      omega
/-- The value of a text. -/
def val (a : List UInt8) : Int := if (digL a).2 then -(valD (digL a).1 : Int) else valD (digL a).1
theorem digL_ok (a : List UInt8) : (digL a).1.all isDig = true ∧ (∀ b t, (digL a).1 = b :: t → (b == 48) = false) ∧ ((digL a).2 = true → (digL a).1 ≠ []) := by
  unfold digL
  simp only
  split
  · rename_i h
    refine ⟨?_, ?_, ?_⟩
    · rw [List.all_eq_true] at h ⊢
      exact fun x hx => h x ((List.dropWhile_sublist _).subset hx)
    · intro b t e
      have e' : (Lib.trimPrefix a [45]).dropWhile (· == 48) = b :: t := e
      clear e
      have e := e'
      have hne : (Lib.trimPrefix a [45]).dropWhile (· == 48) ≠ [] := by rw [e]; simp
      have := dropWhile_head (· == 48) (Lib.trimPrefix a [45]) hne
      simp only [e, List.head_cons] at this
      exact this
    · intro hh
      simp only [Bool.and_eq_true, Bool.not_eq_true'] at hh
      intro e
      have e' : (Lib.trimPrefix a [45]).dropWhile (· == 48) = [] := e
      rw [e'] at hh
      simp at hh
  · simp
theorem digs_val (a : List UInt8) : (digL a).1 = digs (val a).natAbs := by
  obtain ⟨h1, h2, _⟩ := digL_ok a
  unfold val
  split
  · rw [Int.natAbs_neg, Int.natAbs_natCast, digs_valD h1 h2]
  · rw [Int.natAbs_natCast, digs_valD h1 h2]
theorem neg_val (a : List UInt8) : (digL a).2 = decide (val a < 0) := by
  obtain ⟨h1, h2, h3⟩ := digL_ok a
  unfold val
  cases hn : (digL a).2 with
  | false => simp
  | true =>
    have hne := h3 hn
    have hv : valD (digL a).1 ≠ 0 := by
      cases he : (digL a).1 with
      | nil => exact absurd he hne
      | cons b t => rw [he] at h1; exact valD_head h1 (h2 b t he)
    simp; omega
theorem txtL_digs (n : Int) : txtL n = (if n < 0 then [45] else []) ++ digs n.natAbs := by
  unfold txtL digs
  by_cases h : n = 0
  · subst h; rfl
  · rw [if_neg h, if_neg (by omega : n.natAbs ≠ 0)]
    split <;> rfl
theorem canon_val (a : List UInt8) : canonL a = txtL (val a) := by
  unfold canonL
  rw [neg_val, digs_val, txtL_digs]
  by_cases h : val a < 0
  · simp [h]
  · simp [h]

/-- k digits of a number. -/
def padN : Nat → Nat → List UInt8
  | 0, _ => []
  | k + 1, g => padN k (g / 10) ++ [UInt8.ofNat (48 + g % 10)]
theorem padN_len (k g : Nat) : (padN k g).length = k := by
  induction k generalizing g with
  | zero => rfl
  | succ k ih => rw [padN, List.length_append, ih]; rfl
theorem digs_pad (k : Nat) : ∀ (x g : Nat), x ≠ 0 → g < 10 ^ k → digs (10 ^ k * x + g) = digs x ++ padN k g := by
  induction k with
  | zero => intro x g hx hg; simp at hg; subst hg; simp [padN]
  | succ k ih =>
    intro x g hx hg
    rw [Nat.pow_succ] at hg
    have e1 : 10 ^ (k + 1) * x + g = 10 * (10 ^ k * x + g / 10) + g % 10 := by
      rw [Nat.pow_succ, Nat.mul_add, ← Nat.mul_assoc, Nat.mul_comm 10 (10 ^ k)]; omega
    have hne : 10 ^ (k + 1) * x + g ≠ 0 := by
      have := Nat.mul_pos (Nat.pow_pos (n := k + 1) (show 0 < 10 by decide)) (Nat.pos_of_ne_zero hx)
      omega
    rw [digs_step _ hne, e1, show (10 * (10 ^ k * x + g / 10) + g % 10) / 10 = 10 ^ k * x + g / 10 by omega, show (10 * (10 ^ k * x + g / 10) + g % 10) % 10 = g % 10 by omega, ih x (g / 10) hx (by omega), padN, List.append_assoc]
theorem dec_pad (k : Nat) : ∀ g : Nat, g < 10 ^ (k + 1) → (Lib.decDigits g).length ≤ k + 1 ∧ List.replicate (k + 1 - (Lib.decDigits g).length) 48 ++ Lib.decDigits g = padN (k + 1) g := by
  induction k with
  | zero =>
    intro g hg
    rw [Lib.decDigits, dif_pos (by omega)]
    refine ⟨by simp, ?_⟩
    simp only [padN, List.nil_append]
    rw [Nat.mod_eq_of_lt (by omega)]
    rfl
  | succ k ih =>
    intro g hg
    rw [Nat.pow_succ] at hg
    by_cases h10 : g < 10
    · rw [Lib.decDigits, dif_pos h10]
      refine ⟨by simp, ?_⟩
      obtain ⟨i1, i2⟩ := ih (g / 10) (by omega)
      have e0 : g / 10 = 0 := by omega
      rw [e0, Lib.decDigits, dif_pos (by omega)] at i2
      rw [padN, e0, ← i2, Nat.mod_eq_of_lt h10]
      simp only [List.length_cons, List.length_nil, Nat.zero_add, Nat.add_sub_cancel]
      rw [List.replicate_succ', List.append_assoc, List.append_assoc]
      rfl
    · rw [Lib.decDigits, dif_neg h10]
      obtain ⟨i1, i2⟩ := ih (g / 10) (by omega)
      refine ⟨by rw [List.length_append]; simp; omega, ?_⟩
      rw [padN, ← i2, List.length_append, List.length_singleton, show k + 1 + 1 - ((Lib.decDigits (g / 10)).length + 1) = k + 1 - (Lib.decDigits (g / 10)).length by omega, List.append_assoc]
/-- One group more at the end of a text. -/
theorem digs_group (x g : Nat) (hx : x ≠ 0) (hg : g < 1000000000) : digs (g + 1000000000 * x) = digs x ++ (List.replicate (9 - (Lib.decDigits g).length) 48 ++ Lib.decDigits g) := by
  have h := digs_pad 9 x g hx (by omega)
  rw [(dec_pad 8 g (by omega)).2, ← h]
  congr 1
  omega
end Go.Proofs.YtaiikjgoofefgaaGreatDoor
