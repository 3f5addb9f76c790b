/- Merged texts: RO, R7, R9. -/
import Derived.Test.YtaiikjgoofefgaaGreatDoorQG1s1
import Derived.Test.YtaiikjgoofefgaaGreatDoorFRqG1s
import Derived.Test.YtaiikjgoofefgaaGreatDoorR8qG1s
/- Contract of the reference's Of. -/
namespace Go.Proofs.YtaiikjgoofefgaaGreatDoor
open Go.RowKit Go.Shelf

/-- The state of Of's loop: what is left of the number, and the digits so far. -/
def OfRel (N : Nat) (s m : Value) : Prop := ∃ (k : Nat) (t : List UInt8), m = .int .i64 k ∧ (k : Int) ≤ 9223372036854775807 ∧ s = .string ⟨t.toArray⟩ ∧ digs N = digs k ++ t
set_option maxRecDepth 20000 in
set_option maxHeartbeats 400000 in
theorem rOf_pos (n : Int) (h0 : 0 < n) (h1 : n ≤ 9223372036854775807) (w : World) :
    Calls Tryz.prog 60 #[.int .i64 n] w fun e w' => e = .returned (S (txtL n)) ∧ w = w' := by
  have hne : (n == 0) = false := by simp; omega
  have HT := Lib.hid (show txtL n = digs n.natAbs by unfold txtL digs; rw [if_neg (by omega), if_neg (by omega), if_neg (by omega)])
  have HL := Lib.hid (digs_len n.natAbs (by omega))
  have hnn : n = (n.natAbs : Int) := by omega
  generalize n.natAbs = N at *
  have HNN := Lib.hid hnn; clear hnn
  go_enter Tryz.func60, Tryz.ntmps60
  go_wp2
  go_loop [3, 4, 5] (fun s m _ => OfRel N s m) (fun _ m _ => (intOf m).toNat)
  case atStart => exact ⟨N, [], by rw [HNN.out], by rw [← HNN.out]; omega, rfl, by simp⟩
  case round =>
    obtain ⟨k, t, rfl, hk, rfl, hd⟩ := hrel
    have HD := Lib.hid hd; clear hd
    by_cases hk0 : k = 0
    · subst hk0
      go_wp2
      go_ret
      refine ⟨?_, rfl⟩
      rw [HT.out, HD.out]
      rfl
    · have hkb : ((k : Int) != 0) = true := by simp; omega
      have HS := Lib.hid (digs_step k hk0)
      have htl : t.length ≤ 19 := by have h1 := HL.out; rw [HD.out, List.length_append] at h1; omega
      go_wp2
      all_goals first
        | (exfalso
           have := enc_mod_size k
           omega)
        | (go_round
           case rel =>
             refine ⟨k / 10, UInt8.ofNat (48 + k % 10) :: t, by go_num, by omega, ?_, ?_⟩
             · rw [enc_mod]; exact congrArg Value.string (mk_append [UInt8.ofNat (48 + k % 10)] t)
             · rw [HD.out, HS.out, List.append_assoc]; rfl
           case measure => simp [intOf]; omega)
end Go.Proofs.YtaiikjgoofefgaaGreatDoor
/- Contract of the reference's Of for every machine integer but the least. -/
namespace Go.Proofs.YtaiikjgoofefgaaGreatDoor
open Go.RowKit Go.Shelf

set_option maxRecDepth 20000 in
theorem rOf_zero (w : World) : Calls Tryz.prog 60 #[.int .i64 0] w fun e w' => e = .returned (S (txtL 0)) ∧ w = w' := by
  unfold S
  go_enter Tryz.func60, Tryz.ntmps60
  go_wp2
  go_ret
  exact ⟨rfl, rfl⟩
def OfRelN (N : Nat) (s m : Value) : Prop := ∃ (k : Nat) (t : List UInt8), m = .int .i64 (-(k : Int)) ∧ (k : Int) ≤ 9223372036854775807 ∧ s = .string ⟨t.toArray⟩ ∧ digs N = digs k ++ t
set_option maxRecDepth 20000 in
set_option maxHeartbeats 400000 in
theorem rOf_neg (n : Nat) (h0 : 0 < n) (h1 : (n : Int) ≤ 9223372036854775807) (w : World) :
    Calls Tryz.prog 60 #[.int .i64 (-(n : Int))] w fun e w' => e = .returned (S (txtL (-(n : Int)))) ∧ w = w' := by
  have hne : (-(n : Int) == 0) = false := by simp; omega
  have hng : -(n : Int) < 0 := by omega
  have HT := Lib.hid (show txtL (-(n : Int)) = 45 :: digs n by rw [txtL_digs, if_pos (by omega), Int.natAbs_neg, Int.natAbs_natCast]; rfl)
  have HL := Lib.hid (digs_len n (by omega))
  unfold S
  go_enter Tryz.func60, Tryz.ntmps60
  go_wp2
  go_loop [3, 4, 5] (fun s m _ => OfRelN n s m) (fun _ m _ => (-(intOf m)).toNat)
  case atStart => exact ⟨n, [], rfl, h1, rfl, by simp⟩
  case round =>
    obtain ⟨k, t, rfl, hk, rfl, hd⟩ := hrel
    have HD := Lib.hid hd; clear hd
    have htl : t.length ≤ 19 := by have h1 := HL.out; rw [HD.out, List.length_append] at h1; omega
    by_cases hk0 : k = 0
    · subst hk0
      have htz : (⟨t.toArray⟩ : ByteArray).size ≤ 19 := by rw [str_size]; exact htl
      have hz0 : (-((0 : Nat) : Int) != 0) = false := rfl
      go_wp2
      all_goals first
        | (exfalso; omega)
        | (go_ret
           refine ⟨?_, rfl⟩
           rw [HT.out, HD.out]
           exact congrArg (fun b => Ending.returned (.string b)) (ByteArray.mk_append_mk [45] t))
    · have hkb : (-(k : Int) != 0) = true := by simp; omega
      have HS := Lib.hid (digs_step k hk0)
      have key : (k : Int) % 10 ≤ 0 → (48 + -((k : Int) % 10)) = 48 + (k : Int) % 10 := fun h => by omega
      have HKEY := Lib.hid key; clear key
      go_wp2
      all_goals first
        | (exfalso
           have := enc_mod_size k
           omega)
        | (exfalso
           have := enc_mod_size k
           have h2 := HKEY.out (by assumption)
           rw [← h2] at this
           omega)
        | (go_round
           case rel =>
             refine ⟨k / 10, UInt8.ofNat (48 + k % 10) :: t, by rw [show ((k / 10 : Nat) : Int) = (k : Int) / 10 by omega], by omega, ?_, ?_⟩
             · first
                 | (rw [enc_mod]; exact congrArg Value.string (mk_append [UInt8.ofNat (48 + k % 10)] t))
                 | (rw [HKEY.out (by assumption), enc_mod]; exact congrArg Value.string (mk_append [UInt8.ofNat (48 + k % 10)] t))
             · rw [HD.out, HS.out, List.append_assoc]; rfl
           case measure => simp [intOf]; omega)
theorem rOf_any (n : Int) (h0 : -9223372036854775807 ≤ n) (h1 : n ≤ 9223372036854775807) (w : World) : Calls Tryz.prog 60 #[.int .i64 n] w fun e w' => e = .returned (S (txtL n)) ∧ w = w' := by
  rcases Int.lt_trichotomy n 0 with h | h | h
  · have := rOf_neg n.natAbs (by omega) (by omega) w
    rwa [show -((n.natAbs : Nat) : Int) = n by omega] at this
  · subst h; exact rOf_zero w
  · exact rOf_pos n h h1 w
end Go.Proofs.YtaiikjgoofefgaaGreatDoor
/- Contract of the reference's write. -/
namespace Go.Proofs.YtaiikjgoofefgaaGreatDoor
open Go.RowKit Go.Shelf

theorem padN_front (k : Nat) : ∀ g : Nat, padN (k + 1) g = UInt8.ofNat (48 + g / 10 ^ k % 10) :: padN k g := by
  induction k with
  | zero => intro g; simp [padN]
  | succ k ih =>
    intro g
    have h1 : padN (k + 1 + 1) g = padN (k + 1) (g / 10) ++ [UInt8.ofNat (48 + g % 10)] := rfl
    have h2 : padN (k + 1) g = padN k (g / 10) ++ [UInt8.ofNat (48 + g % 10)] := rfl
    rw [h1, ih (g / 10), h2, List.cons_append, Nat.div_div_eq_div_mul, Nat.pow_succ, Nat.mul_comm 10]
theorem padN_dig (k : Nat) : ∀ g : Nat, (padN k g).all isDig = true := by
  induction k with
  | zero => intro g; rfl
  | succ k ih => intro g; rw [padN, List.all_append, ih, List.all_cons, List.all_nil, isDig_dec (g % 10) (by omega)]; rfl
theorem valD_padN (k : Nat) : ∀ g : Nat, valD (padN k g) = g % 10 ^ k := by
  induction k with
  | zero => intro g; simp [padN, valD, Nat.mod_one]
  | succ k ih =>
    intro g
    rw [padN, valD_snoc, ih]
    have : (UInt8.ofNat (48 + g % 10)).toNat = 48 + g % 10 := by simp; omega
    rw [this, Nat.pow_succ, Nat.mul_comm (10 ^ k) 10, Nat.mod_mul]
    omega
theorem valD_zeros (l : List UInt8) : valD (l.dropWhile (· == 48)) = valD l := by
  induction l with
  | nil => rfl
  | cons b l ih =>
    rw [List.dropWhile_cons]
    split
    · rename_i h
      rw [ih]
      have hb : b = 48 := by simpa using h
      subst hb
      unfold valD
      rw [List.foldl_cons]
      rfl
    · rfl
theorem val_digits {t : List UInt8} (h : t.all isDig = true) : val t = valD t := by
  have hp : Lib.hasPrefix t [45] = false := by
    cases t with
    | nil => rfl
    | cons b l =>
      rw [hasP]
      have hb : isDig b = true := by simp at h; exact h.1
      have := (isDig_iff b).1 hb
      rw [Bool.eq_false_iff]
      intro h2
      have : b = 45 := by simpa using h2
      subst this
      simp at *
  have ht : Lib.trimPrefix t [45] = t := by unfold Lib.trimPrefix; rw [hp]; rfl
  unfold val digL
  simp only [ht, h, hp, if_true, Bool.false_and, Bool.false_eq_true, if_false]
  rw [valD_zeros]
theorem val_minus {t : List UInt8} (h : t.all isDig = true) : val (45 :: t) = -(valD t : Int) := by
  have hp : Lib.hasPrefix (45 :: t) [45] = true := by rw [hasP]; rfl
  have ht : Lib.trimPrefix (45 :: t) [45] = t := by rw [trimP]; rfl
  unfold val digL
  simp only [ht, h, hp, if_true, Bool.true_and]
  have hz := valD_zeros t
  cases he : (t.dropWhile (· == 48)).isEmpty with
  | true =>
    have he2 : t.dropWhile (· == 48) = [] := by simpa using he
    rw [← hz, he2]
    rfl
  | false =>
    simp only [Bool.not_false, if_true]
    rw [hz]
/-- The text so far. -/
def WRel (xs : List Nat) (s i : Value) : Prop := ∃ (k : Nat) (t : List UInt8), i = .int .i64 k ∧ k ≤ xs.length ∧ s = .string ⟨t.toArray⟩ ∧ t.length = 9 * k ∧ t.all isDig = true ∧ valD t = gv (xs.take k)
def WRel2 (g : Nat) (t0 : List UInt8) (s n k : Value) : Prop := ∃ (j m : Nat) (t : List UInt8), k = .int .i64 j ∧ j ≤ 9 ∧ n = .int .i64 m ∧ m = g / 10 ^ j ∧ s = .string ⟨t.toArray⟩ ∧ t = padN j g ++ t0
set_option maxRecDepth 20000 in
set_option maxHeartbeats 1000000 in
theorem rWrite_any (neg : Bool) (A : Option Addr) (n c : Nat) (xs : List Nat) (w : World) (hr : Gi w w.heap.size A n xs) (hgs : Gs xs) (hn : n ≤ 1000000) :
    Calls Tryz.prog 62 #[.agg #[.bool neg, .slice A n c]] w fun e w' => e = .returned (S (numT neg (gv xs))) ∧ Below w.heap.size w w' := by
  have hbA : Below w.heap.size w (w.alloc (.cells #[.bool neg, .slice A n c] 69)) := (Below.refl _ _).alloc (Nat.le_refl _) _
  have HB := Lib.hid hbA
  have HR := Lib.hid (hr.here hbA); have HG := Lib.hid hgs; have HXN := Lib.hid hr.1
  obtain ⟨c0, c1⟩ := (RNumB.new w neg A n c).cells
  clear hr hgs hbA
  unfold S
  go_enter Tryz.func62, Tryz.ntmps62
  go_wp2
  generalize w.alloc (.cells #[.bool neg, .slice A n c] 69) = W at *
  go_loop [3, 4] (fun s i => WRel xs s i) (fun _ i => n - (intOf i).toNat)
  case atStart => exact ⟨0, [], rfl, Nat.zero_le _, rfl, rfl, rfl, rfl⟩
  case round =>
    obtain ⟨k, t, rfl, hk, rfl, htl, htd, htv⟩ := hrel
    rw [← HXN.out] at hk
    have HTL := Lib.hid htl; have HTD := Lib.hid htd; have HTV := Lib.hid htv
    clear htl htd htv
    by_cases hlt : k < n
    · obtain ⟨b, off, g, rfl, hb, hg, d0⟩ := HR.out.gri hlt
      have hg9 := HG.out.at_ hg
      have HGG := Lib.hid hg; clear hg
      go_wp2
      go_loop [3, 5, 6] (fun s n k => WRel2 g t s n k) (fun _ _ k => 9 - (intOf k).toNat)
      case atStart => exact ⟨0, g, t, rfl, by omega, rfl, by simp, rfl, rfl⟩
      case round =>
        obtain ⟨j, m, t', rfl, hj, rfl, hm, rfl, ht'⟩ := hrel
        have HM := Lib.hid hm; have HT' := Lib.hid ht'
        have hml : m ≤ g := by rw [hm]; exact Nat.div_le_self _ _
        have htl' : t'.length ≤ 9000009 := by rw [ht', List.length_append, padN_len, HTL.out]; omega
        clear hm ht'
        by_cases hj9 : j < 9
        · go_wp2
          all_goals first
            | (exfalso
               have := enc_mod_size m
               omega)
            | (go_round
               case rel =>
                 refine ⟨j + 1, m / 10, UInt8.ofNat (48 + m % 10) :: t', by go_num, by omega, by go_num, ?_, ?_, ?_⟩
                 · rw [HM.out, Nat.div_div_eq_div_mul, Nat.pow_succ]
                 · rw [enc_mod]; exact congrArg Value.string (mk_append [UInt8.ofNat (48 + m % 10)] t')
                 · rw [HT'.out, padN_front, HM.out]; rfl
               case measure => simp [intOf]; omega)
        · obtain rfl : j = 9 := by omega
          have HNX := Lib.hid (show WRel xs (.string ⟨t'.toArray⟩) (.int .i64 ((k + 1 : Nat) : Int)) from ⟨k + 1, t', rfl, by rw [← HXN.out]; omega, rfl, by rw [HT'.out, List.length_append, padN_len, HTL.out]; omega, by rw [HT'.out, List.all_append, padN_dig, HTD.out]; rfl, by
            rw [HT'.out, valD_append, valD_padN, HTL.out, HTV.out, gv_take xs k g HGG.out, Nat.mod_eq_of_lt (show g < 10 ^ 9 by omega), Nat.pow_mul, Nat.add_comm, Nat.mul_comm]⟩)
          go_wp2
          go_round
          case rel => have := HNX.out; rwa [show ((k + 1 : Nat) : Int) = (k : Int) + 1 by omega] at this
          case measure => simp [intOf]; omega
    · have HV := Lib.hid (show valD t = gv xs by rw [HTV.out, List.take_of_length_le (by rw [← HXN.out]; omega)])
      have htl : t.length ≤ 9000000 := by rw [HTL.out]; omega
      have htz : (⟨t.toArray⟩ : ByteArray).size ≤ 9000000 := by rw [str_size]; exact htl
      cases neg with
      | true =>
        have HC := Lib.hid (fun W => rCanonical_any (45 :: t) W (by simp; omega))
        rw [val_minus HTD.out, HV.out] at HC
        have HMK := Lib.hid (ByteArray.mk_append_mk [45] t)
        unfold S at HC
        go_wp2_with fail
        have hmk : ((⟨#[45]⟩ : ByteArray) ++ ⟨t.toArray⟩) = ⟨(45 :: t).toArray⟩ := HMK.out
        rw [hmk]
        refine (HC.out _).mono ?_
        rintro e w1 ⟨rfl, rfl⟩
        clear hmk
        go_wp2_with fail
        go_ret
        exact ⟨rfl, HB.out⟩
      | false =>
        have HC := Lib.hid (fun W => rCanonical_any t W (by omega))
        rw [val_digits HTD.out, HV.out] at HC
        unfold S at HC
        go_wp2_with fail
        refine (HC.out _).mono ?_
        rintro e w1 ⟨rfl, rfl⟩
        go_wp2_with fail
        go_ret
        exact ⟨rfl, HB.out⟩
end Go.Proofs.YtaiikjgoofefgaaGreatDoor
