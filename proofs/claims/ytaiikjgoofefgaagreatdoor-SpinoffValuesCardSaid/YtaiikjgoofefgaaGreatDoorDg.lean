/- Digits of numbers, plain. -/
import Derived.Test.YtaiikjgoofefgaaGreatDoorN1
namespace Go.Proofs.YtaiikjgoofefgaaGreatDoor
open Go.RowKit Go.Shelf

/-- A number's digits with its sign; none for 0. -/
def txtL (n : Int) : List UInt8 := if n = 0 then [] else if n < 0 then 45 :: Lib.decDigits n.natAbs else Lib.decDigits n.natAbs
def digs (m : Nat) : List UInt8 := if m = 0 then [] else Lib.decDigits m
theorem digs_step (m : Nat) (h : m ≠ 0) : digs m = digs (m / 10) ++ [UInt8.ofNat (48 + m % 10)] := by
  unfold digs
  rw [if_neg h, Lib.decDigits]
  split
  · rename_i hlt
    rw [if_pos (by omega), show m % 10 = m by omega]; rfl
  · rename_i hlt
    rw [if_neg (by omega)]

theorem enc_dig (r : Nat) (h : r < 10) : Utf8.encode (48 + (r : Int)) = ⟨#[UInt8.ofNat (48 + r)]⟩ := by
  have : ∀ r : Fin 10, Utf8.encode (48 + (r.val : Int)) = ⟨#[UInt8.ofNat (48 + r.val)]⟩ := by decide +kernel
  exact this ⟨r, h⟩
theorem enc_mod (k : Nat) : Utf8.encode (48 + (k : Int) % 10) = ⟨#[UInt8.ofNat (48 + k % 10)]⟩ := by
  have := enc_dig (k % 10) (by omega)
  rwa [show ((k % 10 : Nat) : Int) = (k : Int) % 10 by omega] at this
theorem enc_mod_size (k : Nat) : (Utf8.encode (48 + (k : Int) % 10)).size ≤ 1 := by rw [enc_mod]; exact Nat.le_refl _
theorem digs_len (m : Nat) (h : m < 10 ^ 19) : (digs m).length ≤ 19 := by
  unfold digs
  split
  · simp
  · exact decDigits_len m h
theorem digs_pos (m : Nat) (h : m ≠ 0) : 1 ≤ (digs m).length := by rw [digs_step m h, List.length_append]; simp
theorem mk_append (a b : List UInt8) : (⟨a.toArray⟩ : ByteArray) ++ ⟨b.toArray⟩ = ⟨(a ++ b).toArray⟩ := ByteArray.mk_append_mk a b

theorem isDig_dec (d : Nat) (h : d < 10) : isDig (UInt8.ofNat (48 + d)) = true := by
  have : ∀ d : Fin 10, isDig (UInt8.ofNat (48 + d.val)) = true := by decide +kernel
  exact this ⟨d, h⟩
theorem digs_dig (m : Nat) : (digs m).all isDig = true := by
  induction m using Nat.strongRecOn with
  | _ m ih =>
    by_cases h : m = 0
    · subst h; rfl
    · rw [digs_step m h, List.all_append, ih (m / 10) (by omega)]
      simp only [List.all_cons, List.all_nil, Bool.and_true, Bool.true_and]
      exact isDig_dec (m % 10) (by omega)
theorem digs_head (m : Nat) (h : m ≠ 0) : ∃ b l, digs m = b :: l ∧ (b == 48) = false ∧ (b == 45) = false := by
  induction m using Nat.strongRecOn with
  | _ m ih =>
    rw [digs_step m h]
    by_cases h10 : m / 10 = 0
    · rw [h10]
      refine ⟨UInt8.ofNat (48 + m % 10), [], rfl, ?_, ?_⟩
      · have : ∀ d : Fin 10, d.val ≠ 0 → (UInt8.ofNat (48 + d.val) == 48) = false := by decide +kernel
        exact this ⟨m % 10, by omega⟩ (by simp only; omega)
      · have : ∀ d : Fin 10, (UInt8.ofNat (48 + d.val) == 45) = false := by decide +kernel
        exact this ⟨m % 10, by omega⟩
    · obtain ⟨b, l, e, h1, h2⟩ := ih (m / 10) (by omega) h10
      rw [e]
      exact ⟨b, l ++ [UInt8.ofNat (48 + m % 10)], rfl, h1, h2⟩
/-- The canonical form of a text without sign and leading zeros. -/
theorem canon_digs (m : Nat) (h : m ≠ 0) : digL (digs m) = (digs m, false) := by
  obtain ⟨b, l, e, h1, h2⟩ := digs_head m h
  have hall := digs_dig m
  have hp : Lib.hasPrefix (digs m) [45] = false := by
    rw [e]; unfold Lib.hasPrefix
    have h3 : (45 == b) = false := by
      rw [Bool.eq_false_iff] at h2 ⊢
      intro hh; apply h2; simp at hh ⊢; exact hh.symm
    simp [List.isPrefixOf, h3]
  have ht : Lib.trimPrefix (digs m) [45] = digs m := by unfold Lib.trimPrefix; rw [hp]; rfl
  unfold digL
  simp only [ht, hall, hp, if_true, Bool.false_and]
  rw [e, List.dropWhile_cons, h1]
  rfl
theorem ofL_nat (m : Nat) : ofL (m : Int) = digs m := by
  unfold ofL Lib.itoa
  rw [if_neg (by omega)]
  by_cases h : m = 0
  · subst h
    show canonL (Lib.decDigits 0) = _
    rw [Lib.decDigits, dif_pos (by omega)]
    decide +kernel
  · have e : Lib.decDigits (Int.toNat (m : Int)) = digs m := by unfold digs; rw [if_neg h]; simp
    rw [e]
    unfold canonL
    rw [canon_digs m h]
    rfl
theorem txtL_nat (m : Nat) : txtL (m : Int) = digs m := by
  unfold txtL digs
  by_cases h : m = 0
  · subst h; rfl
  · rw [if_neg (by omega), if_neg (by omega), if_neg h]; simp
end Go.Proofs.YtaiikjgoofefgaaGreatDoor
