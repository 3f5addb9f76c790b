/- Merged texts: RO, R7, R9, R10. -/
import Derived.Test.YtpnncoinlopndaaGreatDoorQGTn1
import Derived.Test.YtpnncoinlopndaaGreatDoorQGTn3
import Derived.Test.YtpnncoinlopndaaGreatDoorQGTn24
namespace Go.Proofs.YtpnncoinlopndaaGreatDoor
open Go.RowKit Go.Shelf
def OfRel (N : Nat) (s m : Value) : Prop := ∃ (k : Nat) (t : List UInt8), m = .int .i64 k ∧ (k : Int) ≤ 9223372036854775807 ∧ s = .string ⟨t.toArray⟩ ∧ digs N = digs k ++ t
set_option maxRecDepth 20000 in
set_option maxHeartbeats 400000 in
theorem rOf_pos (n : Int) (h0 : 0 < n) (h1 : n ≤ 9223372036854775807) (w : World) :
    Calls Tryz.prog 94 #[.int .i64 n] w fun e w' => e = .returned (S (txtL n)) ∧ w = w' := by
  have hne : (n == 0) = false := by simp; omega
  have HT := Lib.hid (show txtL n = digs n.natAbs by unfold txtL digs; rw [if_neg (by omega), if_neg (by omega), if_neg (by omega)])
  have HL := Lib.hid (digs_len n.natAbs (by omega))
  have hnn : n = (n.natAbs : Int) := by omega
  generalize n.natAbs = N at *
  have HNN := Lib.hid hnn; clear hnn
  go_enter Tryz.func94, Tryz.ntmps94
  go_wp2
  go_loop [3, 4, 5] (fun s m _ => OfRel N s m) (fun _ m _ => (intOf m).toNat)
  case atStart => exact ⟨N, [], by rw [HNN.out], by rw [← HNN.out]; omega, rfl, by simp⟩
  case round =>
    obtain ⟨k, t, rfl, hk, rfl, hd⟩ := hrel
    have HD := Lib.hid hd; clear hd
    by_cases hk0 : k = 0
    · subst hk0
      go_wp2
      go_ret
      refine ⟨?_, rfl⟩
      rw [HT.out, HD.out]
      rfl
    · have hkb : ((k : Int) != 0) = true := by simp; omega
      have HS := Lib.hid (digs_step k hk0)
      have htl : t.length ≤ 19 := by have h1 := HL.out; rw [HD.out, List.length_append] at h1; omega
      go_wp2
      all_goals first
        | (exfalso
           have := enc_mod_size k
           omega)
        | (go_round
           case rel =>
             refine ⟨k / 10, UInt8.ofNat (48 + k % 10) :: t, by go_num, by omega, ?_, ?_⟩
             · rw [enc_mod]; exact congrArg Value.string (mk_append [UInt8.ofNat (48 + k % 10)] t)
             · rw [HD.out, HS.out, List.append_assoc]; rfl
           case measure => simp [intOf]; omega)
end Go.Proofs.YtpnncoinlopndaaGreatDoor

namespace Go.Proofs.YtpnncoinlopndaaGreatDoor
open Go.RowKit Go.Shelf
set_option maxRecDepth 20000 in
theorem rOf_zero (w : World) : Calls Tryz.prog 94 #[.int .i64 0] w fun e w' => e = .returned (S (txtL 0)) ∧ w = w' := by
  unfold S
  go_enter Tryz.func94, Tryz.ntmps94
  go_wp2
  go_ret
  exact ⟨rfl, rfl⟩
def OfRelN (N : Nat) (s m : Value) : Prop := ∃ (k : Nat) (t : List UInt8), m = .int .i64 (-(k : Int)) ∧ (k : Int) ≤ 9223372036854775807 ∧ s = .string ⟨t.toArray⟩ ∧ digs N = digs k ++ t
set_option maxRecDepth 20000 in
set_option maxHeartbeats 400000 in
theorem rOf_neg (n : Nat) (h0 : 0 < n) (h1 : (n : Int) ≤ 9223372036854775807) (w : World) :
    Calls Tryz.prog 94 #[.int .i64 (-(n : Int))] w fun e w' => e = .returned (S (txtL (-(n : Int)))) ∧ w = w' := by
  have hne : (-(n : Int) == 0) = false := by simp; omega
  have hng : -(n : Int) < 0 := by omega
  have HT := Lib.hid (show txtL (-(n : Int)) = 45 :: digs n by rw [txtL_digs, if_pos (by omega), Int.natAbs_neg, Int.natAbs_natCast]; rfl)
  have HL := Lib.hid (digs_len n (by omega))
  unfold S
  go_enter Tryz.func94, Tryz.ntmps94
  go_wp2
  go_loop [3, 4, 5] (fun s m _ => OfRelN n s m) (fun _ m _ => (-(intOf m)).toNat)
  case atStart => exact ⟨n, [], rfl, h1, rfl, by simp⟩
  case round =>
    obtain ⟨k, t, rfl, hk, rfl, hd⟩ := hrel
    have HD := Lib.hid hd; clear hd
    have htl : t.length ≤ 19 := by have h1 := HL.out; rw [HD.out, List.length_append] at h1; omega
    by_cases hk0 : k = 0
    · subst hk0
      have htz : (⟨t.toArray⟩ : ByteArray).size ≤ 19 := by rw [str_size]; exact htl
      have hz0 : (-((0 : Nat) : Int) != 0) = false := rfl
      go_wp2
      all_goals first
        | (exfalso; omega)
        | (go_ret
           refine ⟨?_, rfl⟩
           rw [HT.out, HD.out]
           exact congrArg (fun b => Ending.returned (.string b)) (ByteArray.mk_append_mk [45] t))
    · have hkb : (-(k : Int) != 0) = true := by simp; omega
      have HS := Lib.hid (digs_step k hk0)
      have key : (k : Int) % 10 ≤ 0 → (48 + -((k : Int) % 10)) = 48 + (k : Int) % 10 := fun h => by omega
      have HKEY := Lib.hid key; clear key
      go_wp2
      all_goals first
        | (exfalso
           have := enc_mod_size k
           omega)
        | (exfalso
           have := enc_mod_size k
           have h2 := HKEY.out (by assumption)
           rw [← h2] at this
           omega)
        | (go_round
           case rel =>
             refine ⟨k / 10, UInt8.ofNat (48 + k % 10) :: t, by rw [show ((k / 10 : Nat) : Int) = (k : Int) / 10 by omega], by omega, ?_, ?_⟩
             · first
                 | (rw [enc_mod]; exact congrArg Value.string (mk_append [UInt8.ofNat (48 + k % 10)] t))
                 | (rw [HKEY.out (by assumption), enc_mod]; exact congrArg Value.string (mk_append [UInt8.ofNat (48 + k % 10)] t))
             · rw [HD.out, HS.out, List.append_assoc]; rfl
           case measure => simp [intOf]; omega)
theorem rOf_any (n : Int) (h0 : -9223372036854775807 ≤ n) (h1 : n ≤ 9223372036854775807) (w : World) : Calls Tryz.prog 94 #[.int .i64 n] w fun e w' => e = .returned (S (txtL n)) ∧ w = w' := by
  rcases Int.lt_trichotomy n 0 with h | h | h
  · have := rOf_neg n.natAbs (by omega) (by omega) w
    rwa [show -((n.natAbs : Nat) : Int) = n by omega] at this
  · subst h; exact rOf_zero w
  · exact rOf_pos n h h1 w
end Go.Proofs.YtpnncoinlopndaaGreatDoor

namespace Go.Proofs.YtpnncoinlopndaaGreatDoor
open Go.RowKit Go.Shelf
theorem padN_front (k : Nat) : ∀ g : Nat, padN (k + 1) g = UInt8.ofNat (48 + g / 10 ^ k % 10) :: padN k g := by
  induction k with
  | zero => intro g; simp [padN]
  | succ k ih =>
    intro g
    have h1 : padN (k + 1 + 1) g = padN (k + 1) (g / 10) ++ [UInt8.ofNat (48 + g % 10)] := rfl
    have h2 : padN (k + 1) g = padN k (g / 10) ++ [UInt8.ofNat (48 + g % 10)] := rfl
    rw [h1, ih (g / 10), h2, List.cons_append, Nat.div_div_eq_div_mul, Nat.pow_succ, Nat.mul_comm 10]
theorem padN_dig (k : Nat) : ∀ g : Nat, (padN k g).all isDig = true := by
  induction k with
  | zero => intro g; rfl
  | succ k ih => intro g; rw [padN, List.all_append, ih, List.all_cons, List.all_nil, isDig_dec (g % 10) (by omega)]; rfl
theorem valD_padN (k : Nat) : ∀ g : Nat, valD (padN k g) = g % 10 ^ k := by
  induction k with
  | zero => intro g; simp [padN, valD, Nat.mod_one]
  | succ k ih =>
    intro g
    rw [padN, valD_snoc, ih]
    have : (UInt8.ofNat (48 + g % 10)).toNat = 48 + g % 10 := by simp; omega
    rw [this, Nat.pow_succ, Nat.mul_comm (10 ^ k) 10, Nat.mod_mul]
    omega
theorem valD_zeros (l : List UInt8) : valD (l.dropWhile (· == 48)) = valD l := by
  induction l with
  | nil => rfl
  | cons b l ih =>
    rw [List.dropWhile_cons]
    split
    · rename_i h
      rw [ih]
      have hb : b = 48 := by simpa using h
      subst hb
      unfold valD
      rw [List.foldl_cons]
      rfl
    · rfl
theorem val_digits {t : List UInt8} (h : t.all isDig = true) : val t = valD t := by
  have hp : Lib.hasPrefix t [45] = false := by
    cases t with
    | nil => rfl
    | cons b l =>
      rw [hasP]
      have hb : isDig b = true := by simp at h; exact h.1
      have := (isDig_iff b).1 hb
      rw [Bool.eq_false_iff]
      intro h2
      have : b = 45 := by simpa using h2
      subst this
      simp at *
  have ht : Lib.trimPrefix t [45] = t := by unfold Lib.trimPrefix; rw [hp]; rfl
  unfold val digL
  simp only [ht, h, hp, if_true, Bool.false_and, Bool.false_eq_true, if_false]
  rw [valD_zeros]
theorem val_minus {t : List UInt8} (h : t.all isDig = true) : val (45 :: t) = -(valD t : Int) := by
  have hp : Lib.hasPrefix (45 :: t) [45] = true := by rw [hasP]; rfl
  have ht : Lib.trimPrefix (45 :: t) [45] = t := by rw [trimP]; rfl
  unfold val digL
  simp only [ht, h, hp, if_true, Bool.true_and]
  have hz := valD_zeros t
  cases he : (t.dropWhile (· == 48)).isEmpty with
  | true =>
    have he2 : t.dropWhile (· == 48) = [] := by simpa using he
    rw [← hz, he2]
    rfl
  | false =>
    simp only [Bool.not_false, if_true]
    rw [hz]
def WRel (xs : List Nat) (s i : Value) : Prop := ∃ (k : Nat) (t : List UInt8), i = .int .i64 k ∧ k ≤ xs.length ∧ s = .string ⟨t.toArray⟩ ∧ t.length = 9 * k ∧ t.all isDig = true ∧ valD t = gv (xs.take k)
def WRel2 (g : Nat) (t0 : List UInt8) (s n k : Value) : Prop := ∃ (j m : Nat) (t : List UInt8), k = .int .i64 j ∧ j ≤ 9 ∧ n = .int .i64 m ∧ m = g / 10 ^ j ∧ s = .string ⟨t.toArray⟩ ∧ t = padN j g ++ t0
set_option maxRecDepth 20000 in
set_option maxHeartbeats 1000000 in
theorem rWrite_any (neg : Bool) (A : Option Addr) (n c : Nat) (xs : List Nat) (w : World) (hr : Gi w w.heap.size A n xs) (hgs : Gs xs) (hn : n ≤ 1000000) :
    Calls Tryz.prog 95 #[.agg #[.bool neg, .slice A n c]] w fun e w' => e = .returned (S (numT neg (gv xs))) ∧ Below w.heap.size w w' := by
  have hbA : Below w.heap.size w (w.alloc (.cells #[.bool neg, .slice A n c] 126)) := (Below.refl _ _).alloc (Nat.le_refl _) _
  have HB := Lib.hid hbA
  have HR := Lib.hid (hr.here hbA); have HG := Lib.hid hgs; have HXN := Lib.hid hr.1
  obtain ⟨c0, c1⟩ := (RNumB.new w neg A n c).cells
  clear hr hgs hbA
  unfold S
  go_enter Tryz.func95, Tryz.ntmps95
  go_wp2
  generalize w.alloc (.cells #[.bool neg, .slice A n c] 126) = W at *
  go_loop [3, 4] (fun s i => WRel xs s i) (fun _ i => n - (intOf i).toNat)
  case atStart => exact ⟨0, [], rfl, Nat.zero_le _, rfl, rfl, rfl, rfl⟩
  case round =>
    obtain ⟨k, t, rfl, hk, rfl, htl, htd, htv⟩ := hrel
    rw [← HXN.out] at hk
    have HTL := Lib.hid htl; have HTD := Lib.hid htd; have HTV := Lib.hid htv
    clear htl htd htv
    by_cases hlt : k < n
    · obtain ⟨b, off, g, rfl, hb, hg, d0⟩ := HR.out.gri hlt
      have hg9 := HG.out.at_ hg
      have HGG := Lib.hid hg; clear hg
      go_wp2
      go_loop [3, 5, 6] (fun s n k => WRel2 g t s n k) (fun _ _ k => 9 - (intOf k).toNat)
      case atStart => exact ⟨0, g, t, rfl, by omega, rfl, by simp, rfl, rfl⟩
      case round =>
        obtain ⟨j, m, t', rfl, hj, rfl, hm, rfl, ht'⟩ := hrel
        have HM := Lib.hid hm; have HT' := Lib.hid ht'
        have hml : m ≤ g := by rw [hm]; exact Nat.div_le_self _ _
        have htl' : t'.length ≤ 9000009 := by rw [ht', List.length_append, padN_len, HTL.out]; omega
        clear hm ht'
        by_cases hj9 : j < 9
        · go_wp2
          all_goals first
            | (exfalso
               have := enc_mod_size m
               omega)
            | (go_round
               case rel =>
                 refine ⟨j + 1, m / 10, UInt8.ofNat (48 + m % 10) :: t', by go_num, by omega, by go_num, ?_, ?_, ?_⟩
                 · rw [HM.out, Nat.div_div_eq_div_mul, Nat.pow_succ]
                 · rw [enc_mod]; exact congrArg Value.string (mk_append [UInt8.ofNat (48 + m % 10)] t')
                 · rw [HT'.out, padN_front, HM.out]; rfl
               case measure => simp [intOf]; omega)
        · obtain rfl : j = 9 := by omega
          have HNX := Lib.hid (show WRel xs (.string ⟨t'.toArray⟩) (.int .i64 ((k + 1 : Nat) : Int)) from ⟨k + 1, t', rfl, by rw [← HXN.out]; omega, rfl, by rw [HT'.out, List.length_append, padN_len, HTL.out]; omega, by rw [HT'.out, List.all_append, padN_dig, HTD.out]; rfl, by
            rw [HT'.out, valD_append, valD_padN, HTL.out, HTV.out, gv_take xs k g HGG.out, Nat.mod_eq_of_lt (show g < 10 ^ 9 by omega), Nat.pow_mul, Nat.add_comm, Nat.mul_comm]⟩)
          go_wp2
          go_round
          case rel => have := HNX.out; rwa [show ((k + 1 : Nat) : Int) = (k : Int) + 1 by omega] at this
          case measure => simp [intOf]; omega
    · have HV := Lib.hid (show valD t = gv xs by rw [HTV.out, List.take_of_length_le (by rw [← HXN.out]; omega)])
      have htl : t.length ≤ 9000000 := by rw [HTL.out]; omega
      have htz : (⟨t.toArray⟩ : ByteArray).size ≤ 9000000 := by rw [str_size]; exact htl
      cases neg with
      | true =>
        have HC := Lib.hid (fun W => rCanonical_any (45 :: t) W (by simp; omega))
        rw [val_minus HTD.out, HV.out] at HC
        have HMK := Lib.hid (ByteArray.mk_append_mk [45] t)
        unfold S at HC
        go_wp2_with fail
        have hmk : ((⟨#[45]⟩ : ByteArray) ++ ⟨t.toArray⟩) = ⟨(45 :: t).toArray⟩ := HMK.out
        rw [hmk]
        refine (HC.out _).mono ?_
        rintro e w1 ⟨rfl, rfl⟩
        clear hmk
        go_wp2_with fail
        go_ret
        exact ⟨rfl, HB.out⟩
      | false =>
        have HC := Lib.hid (fun W => rCanonical_any t W (by omega))
        rw [val_digits HTD.out, HV.out] at HC
        unfold S at HC
        go_wp2_with fail
        refine (HC.out _).mono ?_
        rintro e w1 ⟨rfl, rfl⟩
        go_wp2_with fail
        go_ret
        exact ⟨rfl, HB.out⟩
end Go.Proofs.YtpnncoinlopndaaGreatDoor

namespace Go.Proofs.YtpnncoinlopndaaGreatDoor
open Go.RowKit Go.Shelf
section
variable {w w' : World} {p q : Nat} {neg : Bool} {A : Option Addr} {n c : Nat}
theorem RNumB.set_ {neg' : Bool} {A' : Option Addr} {n' c' : Nat} (h : RNumB w p neg A n c) : RNumB ((w.setCell ⟨p, 0, none⟩ (.bool neg')).setCell ⟨p, 1, none⟩ (.slice A' n' c')) p neg' A' n' c' := by
  unfold RNumB at h ⊢
  rw [heap_setCell_same _ p 1 _ 126 _ (heap_setCell_same w p 0 _ 126 _ h)]
  rfl
theorem RNumB.apart {A0 : Option Addr} {n0 c0 B : Nat} {xs : List Nat} (h : RNumB w p neg A0 n0 c0) (hg : Gi w B A n xs) (u v : Value) : Gi ((w.setCell ⟨p, 0, none⟩ u).setCell ⟨p, 1, none⟩ v) B A n xs := by
  refine ⟨hg.1, fun hn => ?_⟩
  obtain ⟨b, off, e, hb, hc⟩ := hg.2 hn
  refine ⟨b, off, e, hb, fun i x hi j y hj => ?_⟩
  have hx := hc i x hi j y hj
  by_cases hbp : b = p
  · exfalso
    subst hbp
    have hr := cell_of_row w b (off + i * 1 + j) _ 126 (0, 0) h
    rw [hx] at hr
    have hy : y = .int .i64 x := by
      rcases j with _ | j
      · simp [G1] at hj; exact hj.symm
      · simp [G1] at hj
    subst hy
    generalize off + i * 1 + j = t at hr
    rcases t with _ | _ | t
    · simp at hr
    · simp at hr
    · simp at hr
  · rw [← hx]
    exact World.cell?_of_block ((Below.heap_setCell _ ⟨p, 1, none⟩ v b (by simpa using hbp)).trans (Below.heap_setCell w ⟨p, 0, none⟩ u b (by simpa using hbp)))
end
structure RN3 (w w' : World) (nx ny : Bool) (A A' : Option Addr) (n m c c' : Nat) : Prop where
  bl : Below w.heap.size w w'
  x : RNumB w' w.heap.size nx A n c
  y : RNumB w' (w.heap.size + 1) ny A' m c'
  z : RNumB w' (w.heap.size + 1 + 1) false none 0 0
section
variable {w w' w'' : World} {nx ny : Bool} {A A' : Option Addr} {n m c c' : Nat}
theorem RN3.here (h : RN3 w w' nx ny A A' n m c c') (hb : Below w'.heap.size w' w'') : RN3 w w'' nx ny A A' n m c c' :=
  ⟨h.bl.trans (hb.mono h.bl.size), h.x.here hb, h.y.here hb, h.z.here hb⟩
abbrev RNHeld (w w' : World) (nx ny : Bool) (A A' : Option Addr) (n m c c' : Nat) : Prop :=
  w'.cell? ⟨w.heap.size, 0, none⟩ = some (.bool nx) ∧ w'.cell? ⟨w.heap.size, 1, none⟩ = some (.slice A n c) ∧ w'.cell? ⟨w.heap.size + 1, 0, none⟩ = some (.bool ny) ∧ w'.cell? ⟨w.heap.size + 1, 1, none⟩ = some (.slice A' m c')
theorem RN3.held (h : RN3 w w' nx ny A A' n m c c') : RNHeld w w' nx ny A A' n m c c' := ⟨h.x.cells.1, h.x.cells.2, h.y.cells.1, h.y.cells.2⟩
theorem RN3.heldS (h : RN3 w w' nx ny A A' n m c c') (u v : Value) : RNHeld w ((w'.setCell ⟨w.heap.size + 1 + 1, 0, none⟩ u).setCell ⟨w.heap.size + 1 + 1, 1, none⟩ v) nx ny A A' n m c c' := by
  have hx := (h.x.far (a := ⟨w.heap.size + 1 + 1, 0, none⟩) (by simp; omega) u).far (a := ⟨w.heap.size + 1 + 1, 1, none⟩) (by simp; omega) v
  have hy := (h.y.far (a := ⟨w.heap.size + 1 + 1, 0, none⟩) (by simp) u).far (a := ⟨w.heap.size + 1 + 1, 1, none⟩) (by simp) v
  exact ⟨hx.cells.1, hx.cells.2, hy.cells.1, hy.cells.2⟩
theorem RN3.new (w : World) (nx ny : Bool) (A A' : Option Addr) (n m c c' : Nat) : RN3 w (((w.alloc (.cells #[.bool nx, .slice A n c] 126)).alloc (.cells #[.bool ny, .slice A' m c'] 126)).alloc (.cells #[.bool false, .slice none 0 0] 126)) nx ny A A' n m c c' := by
  refine ⟨(((Below.refl _ _).alloc (Nat.le_refl _) _).alloc (by simp) _).alloc (by simp; omega) _, ((RNumB.new w nx A n c).alloc _).alloc _, ?_, ?_⟩
  · have := (RNumB.new (w.alloc (.cells #[.bool nx, .slice A n c] 126)) ny A' m c').alloc (.cells #[.bool false, .slice none 0 0] 126)
    simpa using this
  · have := RNumB.new ((w.alloc (.cells #[.bool nx, .slice A n c] 126)).alloc (.cells #[.bool ny, .slice A' m c'] 126)) false none 0 0
    simpa using this
end
def RAddPost (s : Int) (w : World) (e : Ending) (w' : World) : Prop :=
  ∃ ng A n c xs r, e = .returned (.agg #[.bool ng, .slice A n c]) ∧ Gi w' w'.heap.size A n xs ∧ n ≤ c ∧ Mag xs r ∧ sv ng r = s ∧ Below w.heap.size w w'
set_option maxRecDepth 20000 in
set_option maxHeartbeats 2000000 in
theorem rAddN_any (nx ny : Bool) (A A' : Option Addr) (n m c c' : Nat) (xs ys : List Nat) (u v : Nat) (w : World) (hx : Gi w w.heap.size A n xs) (hy : Gi w w.heap.size A' m ys) (mx : Mag xs u) (my : Mag ys v) (hn : n ≤ 1000000) (hm : m ≤ 1000000) :
    Calls Tryz.prog 96 #[.agg #[.bool nx, .slice A n c], .agg #[.bool ny, .slice A' m c']] w (RAddPost (sv nx u + sv ny v) w) := by
  have HPO := Lib.hid (show RAddPost (sv nx u + sv ny v) w = fun e w' => ∃ ng A n c xs r, e = .returned (.agg #[.bool ng, .slice A n c]) ∧ Gi w' w'.heap.size A n xs ∧ n ≤ c ∧ Mag xs r ∧ sv ng r = sv nx u + sv ny v ∧ Below w.heap.size w w' from rfl)
  generalize RAddPost (sv nx u + sv ny v) w = post at *
  have H3 := Lib.hid (RN3.new w nx ny A A' n m c c')
  have HX := Lib.hid (hx.here H3.out.bl); have HY := Lib.hid (hy.here H3.out.bl); have HMX := Lib.hid mx; have HMY := Lib.hid my
  obtain ⟨p0, p1⟩ := H3.out.x.cells
  obtain ⟨q0, q1⟩ := H3.out.y.cells
  clear hx hy mx my
  go_enter Tryz.func96, Tryz.ntmps96
  by_cases hs : nx = ny
  · subst hs
    have hsb : (nx == nx) = true := by simp
    go_upto_region 2 with (fail)
    generalize ((w.alloc (.cells #[.bool nx, .slice A n c] 126)).alloc (.cells #[.bool nx, .slice A' m c'] 126)).alloc (.cells #[.bool false, .slice none 0 0] 126) = W0 at *
    have HPL := Lib.hid (rPlus_any A A' n m c c' xs ys u v W0.drew HX.out.drew HY.out.drew HMX.out HMY.out hn hm)
    have HSV := Lib.hid (show sv nx (u + v) = sv nx u + sv nx v by cases nx <;> simp [sv] <;> omega)
    go_region_held3 (fun w' => RNHeld w w' nx nx A A' n m c c')
      (first
        | exact (H3.out.here hbz).heldS _ _
        | exact (H3.out.here hbz).held
        | exact H3.out.held
        | go_keep)
      (first
        | (go_at_call 141; refine HPL.out.mono ?_; rintro e w1 ⟨A1, n1, c1, zs, rfl, hg1, hc1, mg1, hb1⟩
           have hbz : Below W0.heap.size W0 w1 := (Below.refl _ W0).drew.trans hb1
           have r0 := (H3.out.here hbz).z.cells.1
           have r1 := (H3.out.here hbz).z.cells.2
           have f0 := (H3.out.here hbz).z.frozen 0
           have f1 := (H3.out.here hbz).z.frozen 1
           have HG1 := Lib.hid hg1
           have HM1 := Lib.hid mg1
           clear hg1 mg1 hb1))
    all_goals
      go_wp2_with fail
      refine bodyPost_ret (v := .agg #[.bool nx, .slice A1 n1 c1]) (by simp [results, Tryz.results96, go_sem, r0, r1]) rfl ?_
      rw [HPO.out]
      have H4 := H3.out.here hbz
      have hW := H4.z.lt
      refine ⟨nx, A1, n1, c1, zs, u + v, rfl, ?_, hc1, HM1.out, HSV.out, (H4.bl.setCell (by simp only; omega) _).setCell (by simp only; omega) _⟩
      exact (H4.z.apart HG1.out _ _).more (by simp)
  · have hsb : (nx == ny) = false := by cases nx <;> cases ny <;> simp_all
    have HSS := Lib.hid hs; clear hs
    go_wp2_with fail
    generalize ((w.alloc (.cells #[.bool nx, .slice A n c] 126)).alloc (.cells #[.bool ny, .slice A' m c'] 126)).alloc (.cells #[.bool false, .slice none 0 0] 126) = W at *
    refine (rOrder_any A A' n m c c' xs ys u v W HX.out HY.out HMX.out HMY.out hn hm).mono ?_
    rintro e W0 ⟨rfl, hb0⟩
    clear p0 p1 q0 q1
    replace H3 := Lib.hid (H3.out.here hb0)
    replace HX := Lib.hid (HX.out.here hb0)
    replace HY := Lib.hid (HY.out.here hb0)
    obtain ⟨p0, p1⟩ := H3.out.x.cells
    obtain ⟨q0, q1⟩ := H3.out.y.cells
    obtain ⟨o, ho⟩ : ∃ o, o = sgnI ((u : Int) - v) := ⟨_, rfl⟩
    rw [← ho]
    by_cases huv : v ≤ u
    · have hd : decide (o ≥ 0) = true := by rw [ho, decide_eq_true_eq]; unfold sgnI; split <;> first | omega | (split <;> omega)
      have hd2 : o ≥ 0 := by simpa using hd
      clear ho
      go_upto_region 4 with (fail)
      have HPL := Lib.hid (rMinus_any A A' n m c c' xs ys u v W0.drew HX.out.drew HY.out.drew HMX.out HMY.out hn hm huv)
      have HSV := Lib.hid (show sv nx (u - v) = sv nx u + sv ny v by have h1 := HSS.out; cases nx <;> cases ny <;> simp_all [sv] <;> omega)
      go_region_held3 (fun w' => RNHeld w w' nx ny A A' n m c c')
        (first
          | exact (H3.out.here hbz).heldS _ _
          | exact (H3.out.here hbz).held
          | exact H3.out.held
          | go_keep)
        (first
          | (go_at_call 143; refine HPL.out.mono ?_; rintro e w1 ⟨A1, n1, c1, zs, rfl, hg1, hc1, mg1, hb1⟩
             have hbz : Below W0.heap.size W0 w1 := (Below.refl _ W0).drew.trans hb1
             have r0 := (H3.out.here hbz).z.cells.1
             have r1 := (H3.out.here hbz).z.cells.2
             have f0 := (H3.out.here hbz).z.frozen 0
             have f1 := (H3.out.here hbz).z.frozen 1
             have HG1 := Lib.hid hg1
             have HM1 := Lib.hid mg1
             clear hg1 mg1 hb1))
      all_goals
        go_wp2_with fail
        refine bodyPost_ret (v := .agg #[.bool nx, .slice A1 n1 c1]) (by simp [results, Tryz.results96, go_sem, r0, r1]) rfl ?_
        rw [HPO.out]
        have H4 := H3.out.here hbz
        have hW := H4.z.lt
        refine ⟨nx, A1, n1, c1, zs, u - v, rfl, ?_, hc1, HM1.out, HSV.out, (H4.bl.setCell (by simp only; omega) _).setCell (by simp only; omega) _⟩
        exact (H4.z.apart HG1.out _ _).more (by simp)
    · have hd : decide (o ≥ 0) = false := by rw [ho, decide_eq_false_iff_not]; unfold sgnI; split <;> first | omega | (split <;> omega)
      have hd2 : ¬ o ≥ 0 := by simpa using hd
      clear ho
      go_upto_region 5 with (fail)
      have HPL := Lib.hid (rMinus_any A' A m n c' c ys xs v u W0.drew HY.out.drew HX.out.drew HMY.out HMX.out hm hn (by omega))
      have HSV := Lib.hid (show sv ny (v - u) = sv nx u + sv ny v by have h1 := HSS.out; cases nx <;> cases ny <;> simp_all [sv] <;> omega)
      go_region_held3 (fun w' => RNHeld w w' nx ny A A' n m c c')
        (first
          | exact (H3.out.here hbz).heldS _ _
          | exact (H3.out.here hbz).held
          | exact H3.out.held
          | go_keep)
        (first
          | (go_at_call 143; refine HPL.out.mono ?_; rintro e w1 ⟨A1, n1, c1, zs, rfl, hg1, hc1, mg1, hb1⟩
             have hbz : Below W0.heap.size W0 w1 := (Below.refl _ W0).drew.trans hb1
             have r0 := (H3.out.here hbz).z.cells.1
             have r1 := (H3.out.here hbz).z.cells.2
             have f0 := (H3.out.here hbz).z.frozen 0
             have f1 := (H3.out.here hbz).z.frozen 1
             have HG1 := Lib.hid hg1
             have HM1 := Lib.hid mg1
             clear hg1 mg1 hb1))
      all_goals
        go_wp2_with fail
        refine bodyPost_ret (v := .agg #[.bool ny, .slice A1 n1 c1]) (by simp [results, Tryz.results96, go_sem, r0, r1]) rfl ?_
        rw [HPO.out]
        have H4 := H3.out.here hbz
        have hW := H4.z.lt
        refine ⟨ny, A1, n1, c1, zs, v - u, rfl, ?_, hc1, HM1.out, HSV.out, (H4.bl.setCell (by simp only; omega) _).setCell (by simp only; omega) _⟩
        exact (H4.z.apart HG1.out _ _).more (by simp)
end Go.Proofs.YtpnncoinlopndaaGreatDoor

