/- Merged texts: N1, Tb, Dg. -/
import Derived.Test.YtaiikjgoofefgaaGreatDoorShelf
import Derived.Test.YtaiikjgoofefgaaGreatDoorBase
import Derived.Shelf.Strings.SlTrimAscii
import Derived.Lib.ItoaNum
import Derived.Lib.LaidTab
import Derived.Lib.AppendIntMem
/- Contract of integer.digits. -/
namespace Go.Proofs.YtaiikjgoofefgaaGreatDoor
open Go.RowKit Go.Shelf

def S (l : List UInt8) : Value := .string ⟨l.toArray⟩
def isDig (b : UInt8) : Bool := 48 ≤ b && b ≤ 57
/-- The significant digits of a string and its sign. -/
def digL (a : List UInt8) : List UInt8 × Bool :=
  let s := Lib.trimPrefix a [45]
  if s.all isDig then (s.dropWhile (· == 48), Lib.hasPrefix a [45] && !(s.dropWhile (· == 48)).isEmpty) else ([], false)
def canonL (a : List UInt8) : List UInt8 := if (digL a).2 then 45 :: (digL a).1 else (digL a).1
def digSet : List UInt8 := [48, 49, 50, 51, 52, 53, 54, 55, 56, 57]
theorem digSet_contains (b : UInt8) : digSet.contains b = isDig b := by
  have h : ∀ n : Fin 256, digSet.contains (UInt8.ofNat n.val) = isDig (UInt8.ofNat n.val) := by decide +kernel
  have := h ⟨b.toNat, b.toNat_lt⟩
  simpa using this
theorem dropWhile_nil {α : Type} (p : α → Bool) (l : List α) : l.dropWhile p = [] ↔ l.all p = true := by
  induction l with
  | nil => simp
  | cons a l ih =>
    rw [List.dropWhile_cons]
    cases h : p a <;> simp [h] at ih ⊢
    exact ih
theorem dropWhile_head {α : Type} (p : α → Bool) (l : List α) (h : l.dropWhile p ≠ []) : p ((l.dropWhile p).head h) = false := by
  induction l with
  | nil => simp at h
  | cons a l ih =>
    cases hp : p a with
    | true =>
      have e : (a :: l).dropWhile p = l.dropWhile p := by rw [List.dropWhile_cons, hp]; rfl
      simp only [e] at h ⊢
      exact ih h
    | false =>
      have e : (a :: l).dropWhile p = a :: l := by rw [List.dropWhile_cons, hp]; rfl
      simp only [e, List.head_cons]
      exact hp
theorem trimS_nil (s : List UInt8) : (Lib.trimS s digSet = []) ↔ s.all isDig = true := by
  have hc : (fun x => digSet.contains x) = isDig := funext digSet_contains
  unfold Lib.trimS Lib.trimLeftS Lib.trimRightS
  rw [hc, dropWhile_nil]
  constructor
  · intro h
    by_cases hn : s.reverse.dropWhile isDig = []
    · rw [dropWhile_nil] at hn; simpa using hn
    · have h1 := dropWhile_head isDig s.reverse hn
      rw [List.all_reverse, List.all_eq_true] at h
      rw [h _ (List.head_mem hn)] at h1
      cases h1
  · intro h
    have : s.reverse.dropWhile isDig = [] := by rw [dropWhile_nil]; simpa using h
    rw [this]; rfl

theorem str_size (l : List UInt8) : (⟨l.toArray⟩ : ByteArray).size = l.length := by simp [ByteArray.size]
theorem trim_any (s : List UInt8) (w : World) (hs : s.length ≤ 1000000000) :
    Calls Tryz.prog 90 #[S s, .string ⟨#[48, 49, 50, 51, 52, 53, 54, 55, 56, 57]⟩] w fun e w' => e = .returned (S (Lib.trimS s digSet)) ∧ Below w.heap.size w w' := by
  by_cases h0 : s.length = 0
  · refine (Any.strings_Trim_empty Tryz.lays160 ⟨s.toArray⟩ _ w (.inl (by rw [str_size]; exact h0))).mono ?_
    rintro e w' ⟨rfl, rfl⟩
    obtain rfl : s = [] := List.eq_nil_of_length_eq_zero h0
    exact ⟨rfl, Below.refl _ _⟩
  · refine (Any.strings_Trim_set Tryz.lays160 (fun _ => by kernel_rfl) (by kernel_rfl) ⟨s.toArray⟩ ⟨#[48, 49, 50, 51, 52, 53, 54, 55, 56, 57]⟩ w (by decide) (by rw [str_size]; omega) (by rw [str_size]; omega) (by decide) (fun j b hb => ?_)).mono ?_
    · have h1 : ∀ b ∈ ([48, 49, 50, 51, 52, 53, 54, 55, 56, 57] : List UInt8), b.toNat < 128 := by decide
      exact h1 b (List.mem_of_getElem? hb)
    · rintro e w' ⟨rfl, q, rfl⟩
      exact ⟨rfl, bdN (((Below.refl _ w).alloc (Nat.le_refl _) _).alloc (by simp) _) q⟩

theorem trimPrefix_len (a p : List UInt8) : (Lib.trimPrefix a p).length ≤ a.length := by
  unfold Lib.trimPrefix
  split
  · rw [List.length_drop]; omega
  · omega
theorem S_toList (l : List UInt8) : (⟨l.toArray⟩ : ByteArray).data.toList = l := by simp

set_option maxHeartbeats 400000 in
theorem digits_any (a : List UInt8) (w : World) (ha : a.length ≤ 1000000000) :
    Calls Tryz.prog 69 #[S a] w fun e w' => e = .returned (.tuple #[S (digL a).1, .bool (digL a).2]) ∧ Below w.heap.size w w' := by
  have HC := Lib.hid (show ∀ W, Calls Tryz.prog 89 #[.string ⟨a.toArray⟩, .string ⟨#[45]⟩] W fun e w' => e = .returned (.tuple #[.string ⟨(Lib.trimPrefix a [45]).toArray⟩, .bool (Lib.hasPrefix a [45])]) ∧ w' = W from fun W => Tryz.strings_CutPrefix ⟨a.toArray⟩ ⟨#[45]⟩ W)
  have hl := trimPrefix_len a [45]
  have HDG := Lib.hid (show digL a = if (Lib.trimPrefix a [45]).all isDig then ((Lib.trimPrefix a [45]).dropWhile (· == 48), Lib.hasPrefix a [45] && !((Lib.trimPrefix a [45]).dropWhile (· == 48)).isEmpty) else ([], false) from rfl)
  generalize Lib.trimPrefix a [45] = s at *
  generalize Lib.hasPrefix a [45] = neg at *
  have HT := Lib.hid (show ∀ W, Calls Tryz.prog 91 #[.string ⟨s.toArray⟩, .string ⟨#[48]⟩] W fun e w' => e = .returned (.string ⟨(s.dropWhile (· == 48)).toArray⟩) ∧ w' = W from fun W => Tryz.strings_TrimLeft_one ⟨s.toArray⟩ 48 (by decide) W)
  have HM := Lib.hid (fun W => trim_any s W (by omega))
  unfold S at *
  cases hall : s.all isDig with
  | true =>
    rw [hall] at HDG
    simp only [if_true] at HDG
    have hn := (trimS_nil s).2 hall
    rw [hn] at HM
    clear hall hn
    generalize s.dropWhile (· == 48) = t at *
    by_cases htn : t = []
    · subst htn
      cases neg <;> (
        go_enter Tryz.func69, Tryz.ntmps69
        go_wp2_with (first
          | (go_at_call 89; refine (HC.out _).mono ?_; rintro e w1 ⟨rfl, rfl⟩)
          | (go_at_call 90; refine (HM.out _).mono ?_; rintro e w2 ⟨rfl, hb2⟩)
          | (go_at_call 91; refine (HT.out _).mono ?_; rintro e w3 ⟨rfl, rfl⟩))
        go_ret2
        rw [HDG.out]
        exact ⟨rfl, hb2⟩)
    · have hte : t.isEmpty = false := by cases t with | nil => exact absurd rfl htn | cons _ _ => rfl
      have hte2 : (⟨t.toArray⟩ : ByteArray).toList.isEmpty = false := by rw [Lib.toList_data]; simpa using hte
      have hte3 : (!(⟨t.toArray⟩ : ByteArray).toList.isEmpty) = true := by rw [hte2]; rfl
      cases neg <;> (
        go_enter Tryz.func69, Tryz.ntmps69
        go_wp2_with (first
          | (go_at_call 89; refine (HC.out _).mono ?_; rintro e w1 ⟨rfl, rfl⟩)
          | (go_at_call 90; refine (HM.out _).mono ?_; rintro e w2 ⟨rfl, hb2⟩)
          | (go_at_call 91; refine (HT.out _).mono ?_; rintro e w3 ⟨rfl, rfl⟩))
        go_ret2
        rw [HDG.out, hte]
        exact ⟨rfl, hb2⟩)
  | false =>
    rw [hall] at HDG
    simp only [Bool.false_eq_true, if_false] at HDG
    have hn : Lib.trimS s digSet ≠ [] := fun h => by rw [(trimS_nil s).1 h] at hall; cases hall
    clear hall
    generalize Lib.trimS s digSet = t at *
    have hte : t.isEmpty = false := by cases t with | nil => exact absurd rfl hn | cons _ _ => rfl
    have hte2 : (⟨t.toArray⟩ : ByteArray).toList.isEmpty = false := by rw [Lib.toList_data]; simpa using hte
    have hte3 : (!(⟨t.toArray⟩ : ByteArray).toList.isEmpty) = true := by rw [hte2]; rfl
    go_enter Tryz.func69, Tryz.ntmps69
    go_wp2_with (first
      | (go_at_call 89; refine (HC.out _).mono ?_; rintro e w1 ⟨rfl, rfl⟩)
      | (go_at_call 90; refine (HM.out _).mono ?_; rintro e w2 ⟨rfl, hb2⟩))
    go_ret2
    rw [HDG.out]
    exact ⟨rfl, hb2⟩

theorem dropWhile_len {α : Type} (p : α → Bool) (l : List α) : (l.dropWhile p).length ≤ l.length := by
  induction l with
  | nil => simp
  | cons a l ih =>
    rw [List.dropWhile_cons]
    split
    · rw [List.length_cons]; omega
    · exact Nat.le_refl _
theorem digL_len (a : List UInt8) : (digL a).1.length ≤ a.length := by
  unfold digL
  simp only
  split
  · exact Nat.le_trans (dropWhile_len _ _) (trimPrefix_len a [45])
  · simp
/-- A machine integer as a canonical one: no digits for 0. -/
def ofL (n : Int) : List UInt8 := canonL (Lib.itoa n)
theorem decDigits_len (u : Nat) (h : u < 10 ^ 19) : (Lib.decDigits u).length ≤ 19 := by
  have : ∀ k u, u < 10 ^ (k + 1) → (Lib.decDigits u).length ≤ k + 1 := by
    intro k
    induction k with
    | zero => intro u h; rw [Lib.decDigits, dif_pos (by omega)]; simp
    | succ k ih =>
      intro u h
      rw [Lib.decDigits]
      split
      · simp
      · rw [List.length_append]
        have := ih (u / 10) (by rw [Nat.pow_succ] at h; omega)
        simp; omega
  exact this 18 u h
end Go.Proofs.YtaiikjgoofefgaaGreatDoor
/- The table of powers of ten that strconv reads. -/
namespace Go.Proofs.YtaiikjgoofefgaaGreatDoor
open Go.RowKit Go.Shelf

def Pow (w : World) : Prop := Lib.TabIs Tryz.prog w "internal/strconv.uint64pow10" .u64 Lib.pow10Tab
theorem Pow.here {w w' : World} (h : Pow w) (hb : Below w.heap.size w w') : Pow w' := Lib.tabBelow_of_tabIs h w' hb
end Go.Proofs.YtaiikjgoofefgaaGreatDoor
/- Digits of numbers, plain. -/
namespace Go.Proofs.YtaiikjgoofefgaaGreatDoor
open Go.RowKit Go.Shelf

/-- A number's digits with its sign; none for 0. -/
def txtL (n : Int) : List UInt8 := if n = 0 then [] else if n < 0 then 45 :: Lib.decDigits n.natAbs else Lib.decDigits n.natAbs
def digs (m : Nat) : List UInt8 := if m = 0 then [] else Lib.decDigits m
theorem digs_step (m : Nat) (h : m ≠ 0) : digs m = digs (m / 10) ++ [UInt8.ofNat (48 + m % 10)] := by
  unfold digs
  rw [if_neg h, Lib.decDigits]
  split
  · rename_i hlt
    rw [if_pos (by omega), show m % 10 = m by omega]; rfl
  · rename_i hlt
    rw [if_neg (by omega)]

theorem enc_dig (r : Nat) (h : r < 10) : Utf8.encode (48 + (r : Int)) = ⟨#[UInt8.ofNat (48 + r)]⟩ := by
  have : ∀ r : Fin 10, Utf8.encode (48 + (r.val : Int)) = ⟨#[UInt8.ofNat (48 + r.val)]⟩ := by decide +kernel
  exact this ⟨r, h⟩
theorem enc_mod (k : Nat) : Utf8.encode (48 + (k : Int) % 10) = ⟨#[UInt8.ofNat (48 + k % 10)]⟩ := by
  have := enc_dig (k % 10) (by omega)
  rwa [show ((k % 10 : Nat) : Int) = (k : Int) % 10 by omega] at this
theorem enc_mod_size (k : Nat) : (Utf8.encode (48 + (k : Int) % 10)).size ≤ 1 := by rw [enc_mod]; exact Nat.le_refl _
theorem digs_len (m : Nat) (h : m < 10 ^ 19) : (digs m).length ≤ 19 := by
  unfold digs
  split
  · simp
  · exact decDigits_len m h
theorem digs_pos (m : Nat) (h : m ≠ 0) : 1 ≤ (digs m).length := by rw [digs_step m h, List.length_append]; simp
theorem mk_append (a b : List UInt8) : (⟨a.toArray⟩ : ByteArray) ++ ⟨b.toArray⟩ = ⟨(a ++ b).toArray⟩ := ByteArray.mk_append_mk a b

theorem isDig_dec (d : Nat) (h : d < 10) : isDig (UInt8.ofNat (48 + d)) = true := by
  have : ∀ d : Fin 10, isDig (UInt8.ofNat (48 + d.val)) = true := by decide +kernel
  exact this ⟨d, h⟩
theorem digs_dig (m : Nat) : (digs m).all isDig = true := by
  induction m using Nat.strongRecOn with
  | _ m ih =>
    by_cases h : m = 0
    · subst h; rfl
    · rw [digs_step m h, List.all_append, ih (m / 10) (by omega)]
      simp only [List.all_cons, List.all_nil, Bool.and_true, Bool.true_and]
      exact isDig_dec (m % 10) (by omega)
theorem digs_head (m : Nat) (h : m ≠ 0) : ∃ b l, digs m = b :: l ∧ (b == 48) = false ∧ (b == 45) = false := by
  induction m using Nat.strongRecOn with
  | _ m ih =>
    rw [digs_step m h]
    by_cases h10 : m / 10 = 0
    · rw [h10]
      refine ⟨UInt8.ofNat (48 + m % 10), [], rfl, ?_, ?_⟩
      · have : ∀ d : Fin 10, d.val ≠ 0 → (UInt8.ofNat (48 + d.val) == 48) = false := by decide +kernel
        exact this ⟨m % 10, by omega⟩ (by simp only; omega)
      · have : ∀ d : Fin 10, (UInt8.ofNat (48 + d.val) == 45) = false := by decide +kernel
        exact this ⟨m % 10, by omega⟩
    · obtain ⟨b, l, e, h1, h2⟩ := ih (m / 10) (by omega) h10
      rw [e]
      exact ⟨b, l ++ [UInt8.ofNat (48 + m % 10)], rfl, h1, h2⟩
/-- The canonical form of a text without sign and leading zeros. -/
theorem canon_digs (m : Nat) (h : m ≠ 0) : digL (digs m) = (digs m, false) := by
  obtain ⟨b, l, e, h1, h2⟩ := digs_head m h
  have hall := digs_dig m
  have hp : Lib.hasPrefix (digs m) [45] = false := by
    rw [e]; unfold Lib.hasPrefix
    have h3 : (45 == b) = false := by
      rw [Bool.eq_false_iff] at h2 ⊢
      intro hh; apply h2; simp at hh ⊢; exact hh.symm
    simp [List.isPrefixOf, h3]
  have ht : Lib.trimPrefix (digs m) [45] = digs m := by unfold Lib.trimPrefix; rw [hp]; rfl
  unfold digL
  simp only [ht, hall, hp, if_true, Bool.false_and]
  rw [e, List.dropWhile_cons, h1]
  rfl
theorem ofL_nat (m : Nat) : ofL (m : Int) = digs m := by
  unfold ofL Lib.itoa
  rw [if_neg (by omega)]
  by_cases h : m = 0
  · subst h
    show canonL (Lib.decDigits 0) = _
    rw [Lib.decDigits, dif_pos (by omega)]
    decide +kernel
  · have e : Lib.decDigits (Int.toNat (m : Int)) = digs m := by unfold digs; rw [if_neg h]; simp
    rw [e]
    unfold canonL
    rw [canon_digs m h]
    rfl
theorem txtL_nat (m : Nat) : txtL (m : Int) = digs m := by
  unfold txtL digs
  by_cases h : m = 0
  · subst h; rfl
  · rw [if_neg (by omega), if_neg (by omega), if_neg h]; simp
end Go.Proofs.YtaiikjgoofefgaaGreatDoor
