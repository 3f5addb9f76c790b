/- Merged texts: R1, R2, R3. -/
import Derived.Test.YtpnncoinlopndaaGreatDoorQGTn1
import Derived.Deep.DeepCutAuto
import Derived.Test.YtpnncoinlopndaaGreatDoorQGTn2
import Derived.Test.YtpnncoinlopndaaGreatDoorQGTn3
namespace Go.Proofs.YtpnncoinlopndaaGreatDoor
open Go.RowKit Go.Shelf
theorem ext_mk (l : List UInt8) (a b : Nat) : (⟨l.toArray⟩ : ByteArray).extract a b = ⟨((l.take b).drop a).toArray⟩ := by
  apply ByteArray.ext
  rw [ByteArray.data_extract, List.extract_toArray, List.extract_eq_take_drop, List.drop_take]
theorem at_mk {l : List UInt8} {k : Nat} {b : UInt8} (h : l[k]? = some b) (hk : k < (⟨l.toArray⟩ : ByteArray).size) : (⟨l.toArray⟩ : ByteArray)[k] = b := by
  obtain ⟨h1, rfl⟩ := List.getElem?_eq_some_iff.1 h
  rfl
theorem tail_mk (b : UInt8) (t : List UInt8) (n : Nat) (hn : n = t.length + 1) : (⟨(b :: t).toArray⟩ : ByteArray).extract 1 n = ⟨t.toArray⟩ := by
  rw [ext_mk, hn, List.take_of_length_le (by simp)]
  rfl
theorem hasP (b : UInt8) (t : List UInt8) : Lib.hasPrefix (b :: t) [45] = (b == 45) := by
  unfold Lib.hasPrefix
  simp only [List.isPrefixOf, Bool.and_true]
  exact Bool.beq_comm
theorem trimP (b : UInt8) (t : List UInt8) : Lib.trimPrefix (b :: t) [45] = if b == 45 then t else b :: t := by
  unfold Lib.trimPrefix
  rw [hasP]
  rfl
theorem u8_beq (b : UInt8) (k : Nat) (hk : k < 256) : ((b.toNat : Int) == (k : Int)) = (b == UInt8.ofNat k) := by
  rw [Bool.eq_iff_iff]
  simp only [beq_iff_eq]
  constructor
  · intro h
    apply UInt8.toNat_inj.1
    rw [UInt8.toNat_ofNat']
    omega
  · intro h
    rw [h, UInt8.toNat_ofNat']
    omega
theorem all_snoc {s : List UInt8} {k : Nat} {b : UInt8} (h : s[k]? = some b) (ha : (s.take k).all isDig = true) (hb : isDig b = true) : (s.take (k + 1)).all isDig = true := by
  obtain ⟨hk, rfl⟩ := List.getElem?_eq_some_iff.1 h
  rw [List.take_succ_eq_append_getElem hk, List.all_append, ha]
  simpa using hb
theorem all_not {s : List UInt8} {k : Nat} {b : UInt8} (h : s[k]? = some b) (hb : ¬ isDig b = true) : s.all isDig = false := by
  rw [Bool.eq_false_iff]
  intro h2
  rw [List.all_eq_true] at h2
  exact hb (h2 b (List.mem_of_getElem? h))
set_option maxRecDepth 20000 in
set_option maxHeartbeats 1000000 in
theorem rDigits_any (a : List UInt8) (w : World) (ha : a.length ≤ 1000000000) :
    Calls Tryz.prog 115 #[S a] w fun e w' => e = .returned (.tuple #[S (digL a).1, .bool (digL a).2]) ∧ w = w' := by
  have HDG := Lib.hid (show digL a = if (Lib.trimPrefix a [45]).all isDig then ((Lib.trimPrefix a [45]).dropWhile (· == 48), Lib.hasPrefix a [45] && !((Lib.trimPrefix a [45]).dropWhile (· == 48)).isEmpty) else ([], false) from rfl)
  have hl := trimPrefix_len a [45]
  obtain ⟨s, hs⟩ : ∃ s, Lib.trimPrefix a [45] = s := ⟨_, rfl⟩
  obtain ⟨neg, hn⟩ : ∃ neg, Lib.hasPrefix a [45] = neg := ⟨_, rfl⟩
  rw [hs, hn] at HDG
  rw [hs] at hl
  have HS := Lib.hid hs; have HN := Lib.hid hn; clear hs hn
  unfold S at *
  go_enter Tryz.func115, Tryz.ntmps115
  go_upto_region 2 with (fail)
  go_cut [5] (fun v wc => v = .bool neg ∧ wc = w)
  case first =>
    cases a with
    | nil =>
      go_wp2
      go_meet
      exact ⟨by rw [← HN.out]; rfl, rfl⟩
    | cons b t =>
      have h0 : 0 < (⟨(b :: t).toArray⟩ : ByteArray).size := by rw [str_size]; simp
      have hb : (⟨(b :: t).toArray⟩ : ByteArray)[0] = b := at_mk rfl h0
      go_wp2
      go_meet
      exact ⟨by rw [← HN.out, hasP]; exact congrArg Value.bool (u8_beq b 45 (by omega)), rfl⟩
  case rest =>
  obtain ⟨rfl, rfl⟩ := hcut
  go_upto_if 16 with (fail)
  go_cut [4] (fun v w1 => v = .string ⟨s.toArray⟩ ∧ w1 = wc)
  case first =>
    cases a with
    | nil =>
      obtain rfl : false = neg := HN.out
      obtain rfl : [] = s := HS.out
      go_wp2
      go_meet
      exact ⟨rfl, rfl⟩
    | cons b t =>
      have hlen : (⟨(b :: t).toArray⟩ : ByteArray).size = t.length + 1 := by rw [str_size]; rfl
      have HLE := Lib.hid hlen
      cases neg with
      | true =>
        have HT := Lib.hid (show t = s by have h1 := HS.out; have h2 := HN.out; rw [hasP] at h2; rw [trimP, h2] at h1; exact h1)
        go_wp2
        go_meet
        exact ⟨by rw [← HT.out, tail_mk b t _ rfl], rfl⟩
      | false =>
        have HT := Lib.hid (show b :: t = s by have h1 := HS.out; have h2 := HN.out; rw [hasP] at h2; rw [trimP, h2] at h1; exact h1)
        clear hlen
        go_wp2
        go_meet
        exact ⟨by rw [← HT.out], rfl⟩
  case rest =>
  obtain ⟨rfl, rfl⟩ := hcut
  have hsl : s.length ≤ 1000000000 := by omega
  clear hl ha HS HN
  go_wp2
  go_loop [6] (fun i => ∃ k : Nat, k ≤ s.length ∧ i = .int .i64 k ∧ Hid ((s.take k).all isDig = true)) (fun i => s.length - (intOf i).toNat)
  case atStart => exact ⟨0, Nat.zero_le _, rfl, by show _ = _; rfl⟩
  case round =>
    obtain ⟨k, hk, rfl, HA⟩ := hrel
    by_cases hlt : k < s.length
    · obtain ⟨b, hb⟩ : ∃ b, s[k]? = some b := ⟨_, List.getElem?_eq_getElem hlt⟩
      have hks : k < (⟨s.toArray⟩ : ByteArray).size := by rw [str_size]; exact hlt
      have hbk : (⟨s.toArray⟩ : ByteArray)[k] = b := at_mk hb hks
      have HB := Lib.hid hb; clear hb
      by_cases hd : isDig b = true
      · have HST := Lib.hid (all_snoc HB.out HA.out hd)
        obtain ⟨h1, h2⟩ := (isDig_iff b).1 hd
        clear hd
        go_wp2
        all_goals first
          | (go_round
             case rel => exact ⟨k + 1, by omega, by go_num, HST⟩
             case measure => simp [intOf]; omega)
          | (exfalso; omega)
      · have HF := Lib.hid (all_not HB.out hd)
        have hnd : b.toNat < 48 ∨ 57 < b.toNat := by
          rw [isDig_iff] at hd; omega
        clear hd
        rcases hnd with hnd | hnd
        all_goals
          go_wp2
          go_ret2
          rw [HDG.out, HF.out]
          exact ⟨rfl, rfl⟩
    · have HALL := Lib.hid (show s.all isDig = true by have := HA.out; rwa [List.take_of_length_le (by omega)] at this)
      rw [HALL.out] at HDG
      simp only [if_true] at HDG
      go_wp2
      go_loop [4] (fun v => ∃ t : List UInt8, v = .string ⟨t.toArray⟩ ∧ t.length ≤ 1000000000 ∧ Hid (s.dropWhile (· == 48) = t.dropWhile (· == 48))) (fun v => match v with | .string b => b.size | _ => 0)
      case atStart => exact ⟨s, rfl, hsl, by show _ = _; rfl⟩
      case round =>
        obtain ⟨t, rfl, htl, HD⟩ := hrel
        cases t with
        | nil =>
          cases neg <;> (
            go_wp2
            go_ret2
            rw [HDG.out, HD.out]
            exact ⟨rfl, rfl⟩)
        | cons b t =>
          have hlen : (⟨(b :: t).toArray⟩ : ByteArray).size = t.length + 1 := by rw [str_size]; rfl
          have h0 : 0 < (⟨(b :: t).toArray⟩ : ByteArray).size := by rw [str_size]; simp
          have hb : (⟨(b :: t).toArray⟩ : ByteArray)[0] = b := at_mk rfl h0
          have HU := Lib.hid (show ((b.toNat : Int) == 48) = (b == 48) from u8_beq b 48 (by omega))
          cases hz : (b == 48) with
          | true =>
            rw [hz] at HU
            have hu := HU.out
            have HD2 := Lib.hid (show s.dropWhile (· == 48) = t.dropWhile (· == 48) by rw [HD.out, List.dropWhile_cons, hz]; rfl)
            have HTM := Lib.hid (tail_mk b t (t.length + 1) rfl)
            clear hz
            go_wp2
            go_round
            case rel => exact ⟨t, by rw [HTM.out], by simp at htl; omega, HD2⟩
            case measure => rw [HTM.out]; show (⟨t.toArray⟩ : ByteArray).size < (⟨(b :: t).toArray⟩ : ByteArray).size; rw [str_size, str_size]; simp
          | false =>
            rw [hz] at HU
            have hu := HU.out
            have HD2 := Lib.hid (show s.dropWhile (· == 48) = b :: t by rw [HD.out, List.dropWhile_cons, hz]; rfl)
            have hte3 : (!(⟨(b :: t).toArray⟩ : ByteArray).toList.isEmpty) = true := by rw [Lib.toList_data]; rfl
            clear hz
            cases neg <;> (
              go_wp2
              go_ret2
              rw [HDG.out, HD2.out]
              exact ⟨rfl, rfl⟩)
theorem val_abs (a : List UInt8) : valD (digL a).1 = (val a).natAbs := by
  unfold val
  split <;> omega
set_option maxRecDepth 20000 in
theorem rCanonical_any (a : List UInt8) (w : World) (ha : a.length ≤ 1000000000) : Calls Tryz.prog 114 #[S a] w fun e w' => e = .returned (S (txtL (val a))) ∧ w = w' := by
  have H := Lib.hid (rDigits_any a w ha)
  have hl := digL_len a
  have HC := Lib.hid (show txtL (val a) = if (digL a).2 then 45 :: (digL a).1 else (digL a).1 by rw [← canon_val]; rfl)
  have hl2 : (digL a).1.length ≤ 1000000000 := by omega
  clear hl ha
  generalize txtL (val a) = res at *
  generalize (digL a).1 = t at *
  generalize (digL a).2 = neg at *
  unfold S at *
  cases neg with
  | true =>
    have hsz : (⟨t.toArray⟩ : ByteArray).size ≤ 1000000000 := by rw [str_size]; exact hl2
    go_enter Tryz.func114, Tryz.ntmps114
    go_wp2_with (go_at_call 115; refine H.out.mono ?_; rintro e w1 ⟨rfl, rfl⟩)
    go_ret
    rw [HC.out]
    exact ⟨congrArg (fun b => Ending.returned (.string b)) (ByteArray.mk_append_mk [45] t), rfl⟩
  | false =>
    go_enter Tryz.func114, Tryz.ntmps114
    go_wp2_with (go_at_call 115; refine H.out.mono ?_; rintro e w1 ⟨rfl, rfl⟩)
    go_ret
    rw [HC.out]
    exact ⟨by simp, rfl⟩
set_option maxRecDepth 20000 in
theorem rNeg_any (a : List UInt8) (w : World) (ha : a.length ≤ 1000000000) : Calls Tryz.prog 92 #[S a] w fun e w' => e = .returned (S (txtL (-val a))) ∧ w = w' := by
  have H := Lib.hid (rDigits_any a w ha)
  have hl := digL_len a
  have hl2 : (digL a).1.length ≤ 1000000000 := by omega
  have HD := Lib.hid (digs_val a); have HN := Lib.hid (neg_val a)
  have HC := Lib.hid (show txtL (-val a) = if (digL a).2 || ((digL a).1 == []) then (digL a).1 else 45 :: (digL a).1 by
    rw [txtL_digs, Int.natAbs_neg, ← HD.out, HN.out]
    by_cases h1 : val a < 0
    · rw [if_neg (by omega)]; simp [h1]
    · by_cases h0 : val a = 0
      · have : (digL a).1 = [] := by rw [HD.out, h0]; rfl
        rw [this]; simp [h0]
      · have : (digL a).1 ≠ [] := fun h => by
          have h2 := val_abs a
          rw [h] at h2
          simp [valD] at h2
          omega
        rw [if_pos (by omega)]
        simp [h1, this])
  clear hl ha HD HN
  generalize txtL (-val a) = res at *
  generalize (digL a).1 = t at *
  generalize (digL a).2 = neg at *
  unfold S at *
  have hsz : (⟨t.toArray⟩ : ByteArray).size ≤ 1000000000 := by rw [str_size]; exact hl2
  cases neg with
  | true =>
    go_enter Tryz.func92, Tryz.ntmps92
    go_wp2_with (go_at_call 115; refine H.out.mono ?_; rintro e w1 ⟨rfl, rfl⟩)
    go_ret
    rw [HC.out]
    exact ⟨by simp, rfl⟩
  | false =>
    cases ht : (t == []) with
    | true =>
      rw [ht] at HC
      obtain rfl : t = [] := eq_of_beq ht
      clear ht
      go_enter Tryz.func92, Tryz.ntmps92
      go_wp2_with (go_at_call 115; refine H.out.mono ?_; rintro e w1 ⟨rfl, rfl⟩)
      go_ret
      rw [HC.out]
      exact ⟨by simp, rfl⟩
    | false =>
      rw [ht] at HC
      have hte : t.isEmpty = false := by cases t with | nil => simp at ht | cons _ _ => rfl
      have hte2 : (⟨t.toArray⟩ : ByteArray).toList.isEmpty = false := by rw [Lib.toList_data]; simpa using hte
      go_enter Tryz.func92, Tryz.ntmps92
      go_wp2_with (go_at_call 115; refine H.out.mono ?_; rintro e w1 ⟨rfl, rfl⟩)
      go_ret
      rw [HC.out]
      exact ⟨congrArg (fun b => Ending.returned (.string b)) (ByteArray.mk_append_mk [45] t), rfl⟩
def shortL (a : List UInt8) : Int × Bool := if (digL a).1.length ≤ 17 then (val a, true) else (0, false)
theorem valD_take {s : List UInt8} {k : Nat} {b : UInt8} (h : s[k]? = some b) : valD (s.take (k + 1)) = 10 * valD (s.take k) + (b.toNat - 48) := by
  obtain ⟨hk, rfl⟩ := List.getElem?_eq_some_iff.1 h
  rw [List.take_succ_eq_append_getElem hk, valD_snoc]
theorem valD_take_lt {s : List UInt8} (hd : s.all isDig = true) (k : Nat) (hk : k ≤ 17) : valD (s.take k) < 100000000000000000 := by
  have h : (s.take k).all isDig = true := by
    rw [List.all_eq_true] at hd ⊢
    exact fun x hx => hd x (List.mem_of_mem_take hx)
  have h1 := valD_lt h
  have h2 : 10 ^ (s.take k).length ≤ 10 ^ 17 := Nat.pow_le_pow_right (by omega) (by rw [List.length_take]; omega)
  omega
set_option maxRecDepth 20000 in
set_option maxHeartbeats 1000000 in
theorem rShort_any (a : List UInt8) (w : World) (ha : a.length ≤ 1000000000) : Calls Tryz.prog 93 #[S a] w fun e w' => e = .returned (.tuple #[.int .i64 (shortL a).1, .bool (shortL a).2]) ∧ w = w' := by
  have H := Lib.hid (rDigits_any a w ha)
  have hl := digL_len a
  have HSH := Lib.hid (show shortL a = if (digL a).1.length ≤ 17 then ((if (digL a).2 then -(valD (digL a).1 : Int) else valD (digL a).1), true) else (0, false) from rfl)
  have HDG := Lib.hid (digL_ok a).1
  have hl2 : (digL a).1.length ≤ 1000000000 := by omega
  clear hl ha
  generalize shortL a = res at *
  generalize (digL a).1 = s at *
  generalize (digL a).2 = neg at *
  unfold S at *
  by_cases h17 : s.length ≤ 17
  · rw [if_pos h17] at HSH
    clear hl2
    go_enter Tryz.func93, Tryz.ntmps93
    go_wp2_with (go_at_call 115; refine H.out.mono ?_; rintro e w1 ⟨rfl, rfl⟩)
    go_loop [6, 7] (fun n i => ∃ (k m : Nat), k ≤ s.length ∧ i = .int .i64 k ∧ n = .int .i64 m ∧ m < 100000000000000000 ∧ Hid (m = valD (s.take k))) (fun _ i => s.length - (intOf i).toNat)
    case atStart => exact ⟨0, 0, Nat.zero_le _, rfl, rfl, by omega, by show _ = _; rfl⟩
    case round =>
      obtain ⟨k, m, hk, rfl, rfl, hm, HM⟩ := hrel
      by_cases hlt : k < s.length
      · obtain ⟨b, hb⟩ : ∃ b, s[k]? = some b := ⟨_, List.getElem?_eq_getElem hlt⟩
        have hks : k < (⟨s.toArray⟩ : ByteArray).size := by rw [str_size]; exact hlt
        have hbk : (⟨s.toArray⟩ : ByteArray)[k] = b := at_mk hb hks
        have hdb := (isDig_iff b).1 (by have := HDG.out; rw [List.all_eq_true] at this; exact this b (List.mem_of_getElem? hb))
        obtain ⟨h1, h2⟩ := hdb
        have HST := Lib.hid (valD_take hb)
        have hm2 := valD_take_lt HDG.out (k + 1) (by omega)
        rw [HST.out, ← HM.out] at hm2
        clear hb
        go_wp2
        go_round
        case rel => exact ⟨k + 1, 10 * m + (b.toNat - 48), by omega, by go_num, by rw [show ((10 * m + (b.toNat - 48) : Nat) : Int) = 10 * (m : Int) + ((b.toNat : Int) - 48) by omega], hm2, by show _ = _; rw [HST.out, ← HM.out]⟩
        case measure => simp [intOf]; omega
      · have HV := Lib.hid (show m = valD s by have := HM.out; rwa [List.take_of_length_le (by omega)] at this)
        cases neg with
        | true =>
          go_wp2
          go_ret2
          rw [HSH.out, ← HV.out]
          exact ⟨by simp, rfl⟩
        | false =>
          go_wp2
          go_ret2
          rw [HSH.out, ← HV.out]
          exact ⟨by simp, rfl⟩
  · rw [if_neg h17] at HSH
    go_enter Tryz.func93, Tryz.ntmps93
    go_wp2_with (go_at_call 115; refine H.out.mono ?_; rintro e w1 ⟨rfl, rfl⟩)
    go_ret2
    rw [HSH.out]
    exact ⟨rfl, rfl⟩
end Go.Proofs.YtpnncoinlopndaaGreatDoor

namespace Go.Proofs.YtpnncoinlopndaaGreatDoor
open Go.RowKit Go.Shelf
def G1 (x : Nat) : List Value := [.int .i64 x]
theorem G1_len (x : Nat) : (G1 x).length = 1 := rfl
theorem G1_one (x : Nat) : ∀ u ∈ G1 x, u.oneCell' = true := by simp [G1, Value.oneCell']
abbrev Gi (w : World) (B : Nat) (A : Option Addr) (n : Nat) (xs : List Nat) : Prop := Sl G1 1 w B A n xs
theorem Sl.gri {w : World} {B : Nat} {A : Option Addr} {n : Nat} {xs : List Nat} {i : Nat} (h : Gi w B A n xs) (hi : i < n) :
    ∃ b off x, A = some ⟨b, off, none⟩ ∧ b < B ∧ xs[i]? = some x ∧ w.cell? ⟨b, off + i, none⟩ = some (.int .i64 x) := by
  obtain ⟨b, off, x, hA, hb, hx, hc⟩ := h.at_ hi
  exact ⟨b, off, x, hA, hb, hx, by have := hc 0 _ rfl; simpa using this⟩
theorem elemInts : ElemT Tryz.prog 124 3 1 8 := elemT_of Tryz.underlying124 (by kernel_rfl) (by decide) (by decide)
set_option maxHeartbeats 400000 in
theorem rTrim_any (A : Option Addr) (n c : Nat) (xs : List Nat) (w : World) (hr : Gi w w.heap.size A n xs) (hc : n ≤ c) (hn : n ≤ 1000000000) :
    Calls Tryz.prog 182 #[.slice A n c] w (CutPost A n c xs w) := by
  have HXN := Lib.hid hr.1
  have HR := Lib.hid hr; clear hr
  go_enter Tryz.func182, Tryz.ntmps182
  go_wp2
  go_loop [0] (fun v => ∃ j : Nat, v = .slice A j c ∧ j ≤ n ∧ Hid (gv (xs.take j) = gv xs)) (fun v => match v with | .slice _ j _ => j | _ => 0)
  case atStart => exact ⟨n, rfl, Nat.le_refl _, by show _ = _; rw [List.take_of_length_le (by rw [← HXN.out]; omega)]⟩
  case round =>
    obtain ⟨j, rfl, hj, HG⟩ := hrel
    by_cases h0 : j = 0
    · subst h0
      go_wp2
      go_ret
      exact ⟨0, rfl, Nat.zero_le _, HG.out, by unfold Nz; simp, rfl⟩
    · obtain ⟨j', rfl⟩ : ∃ j', j = j' + 1 := ⟨j - 1, by omega⟩
      obtain ⟨b, off, x, rfl, hb, hx, d0⟩ := HR.out.gri (i := j') (by omega)
      have HX := Lib.hid hx; clear hx
      have hj1 : 0 ≤ (j' : Int) := by omega
      have hj2 : j' ≤ c := by omega
      by_cases hx0 : x = 0
      · have hxb : ((x : Int) == 0) = true := by simp [hx0]
        have HG2 := Lib.hid (show gv (xs.take j') = gv xs by rw [← HG.out, gv_take xs j' x HX.out, hx0]; simp)
        clear hx0
        go_wp2
        go_round
        case rel => exact ⟨j', rfl, by omega, HG2⟩
        case measure => simp
      · have hxb : ((x : Int) == 0) = false := by simp; omega
        have HZ := Lib.hid (nz_take HX.out hx0)
        clear hx0
        go_wp2
        go_ret
        exact ⟨j' + 1, rfl, hj, HG.out, HZ.out, rfl⟩
theorem rGroup_any (A : Option Addr) (n c : Nat) (xs : List Nat) (i : Nat) (w : World) (hr : Gi w w.heap.size A n xs) (hn : n ≤ 1000000000) (hi : i ≤ 1000000000) :
    Calls Tryz.prog 181 #[.slice A n c, .int .i64 i] w fun e w' => e = .returned (.int .i64 (gAt xs i)) ∧ w = w' := by
  by_cases h : i < n
  · obtain ⟨b, off, x, rfl, hb, hx, d0⟩ := hr.gri h
    have HG := Lib.hid (show gAt xs i = x by unfold gAt; simp [List.getD, hx])
    clear hx hr
    go_enter Tryz.func181, Tryz.ntmps181
    go_wp2
    go_ret
    rw [HG.out]
    exact ⟨rfl, rfl⟩
  · have HG := Lib.hid (show gAt xs i = 0 by unfold gAt; simp [List.getD]; rw [List.getElem?_eq_none (by rw [← hr.1]; omega)]; rfl)
    have hd : decide (i < n) = false := by simpa using h
    clear hr h
    go_enter Tryz.func181, Tryz.ntmps181
    go_wp2
    go_ret
    rw [HG.out]
    exact ⟨rfl, rfl⟩
def OrdPost (u v : Nat) (w : World) (e : Ending) (w' : World) : Prop := e = .returned (.int .i64 (sgnI ((u : Int) - v))) ∧ Below w.heap.size w w'
theorem ord_lt {u v : Nat} (h : u < v) : sgnI ((u : Int) - v) = -1 := by unfold sgnI; rw [if_pos (by omega)]
theorem ord_gt {u v : Nat} (h : v < u) : sgnI ((u : Int) - v) = 1 := by unfold sgnI; rw [if_neg (by omega), if_pos (by omega)]
theorem ord_eq {u v : Nat} (h : u = v) : sgnI ((u : Int) - v) = 0 := by unfold sgnI; rw [if_neg (by omega), if_neg (by omega)]
set_option maxHeartbeats 1000000 in
theorem rOrder_any (A A' : Option Addr) (n m c c' : Nat) (xs ys : List Nat) (u v : Nat) (w : World) (hx : Gi w w.heap.size A n xs) (hy : Gi w w.heap.size A' m ys) (mx : Mag xs u) (my : Mag ys v) (hn : n ≤ 1000000) (hm : m ≤ 1000000) :
    Calls Tryz.prog 142 #[.slice A n c, .slice A' m c'] w (OrdPost u v w) := by
  have HXN := Lib.hid hx.1; have HYN := Lib.hid hy.1
  have HX := Lib.hid hx; have HY := Lib.hid hy; have HMX := Lib.hid mx; have HMY := Lib.hid my
  have HPO := Lib.hid (show OrdPost u v w = fun e w' => e = .returned (.int .i64 (sgnI ((u : Int) - v))) ∧ Below w.heap.size w w' from rfl)
  generalize OrdPost u v w = post at *
  clear hx hy mx my
  by_cases hnm : n = m
  · obtain rfl : n = m := hnm
    have hne : ((n : Int) != (n : Int)) = false := by simp
    go_enter Tryz.func142, Tryz.ntmps142
    go_wp2
    go_loopw [5] (fun i wr => ∃ (k : Nat) (ii : Int), i = .int .i64 ii ∧ Hid (ii = (k : Int) - 1) ∧ k ≤ n ∧ Hid (xs.drop k = ys.drop k) ∧ Below w.heap.size w wr) (fun i _ => (intOf i + 1).toNat)
    case atStart => exact ⟨n, _, rfl, by show _ = _; rfl, Nat.le_refl _, by show _ = _; rw [List.drop_of_length_le (by rw [← HXN.out]; omega), List.drop_of_length_le (by rw [← HYN.out]; omega)], Below.refl _ _⟩
    case round =>
      obtain ⟨k, ii, rfl, HII, hk, HD, hb⟩ := hrel
      by_cases hk0 : k = 0
      · subst hk0
        have hi : ii < 0 := by have := HII.out; omega
        have HE := Lib.hid (show u = v by
          have := HD.out
          rw [List.drop_zero, List.drop_zero] at this
          rw [← HMX.out.val, ← HMY.out.val, this])
        go_wp2
        rw [HPO.out, ord_eq HE.out]
        exact ⟨rfl, hb⟩
      · obtain ⟨k', rfl⟩ : ∃ k', k = k' + 1 := ⟨k - 1, by omega⟩
        obtain rfl : ii = (k' : Int) := by have := HII.out; omega
        obtain ⟨b1, o1, x, rfl, hl1, hx, d1⟩ := HX.out.gri (i := k') (by omega)
        obtain ⟨b2, o2, y, rfl, hl2, hy, d2⟩ := HY.out.gri (i := k') (by omega)
        have d1' := (hb.cell (p := ⟨b1, o1 + k', none⟩) hl1).trans d1
        have d2' := (hb.cell (p := ⟨b2, o2 + k', none⟩) hl2).trans d2
        have HGX := Lib.hid hx; have HGY := Lib.hid hy
        clear d1 d2 hx hy
        by_cases hlt : x < y
        · have HL := Lib.hid (mag_less HMX.out.gs HGX.out HGY.out HD.out hlt)
          rw [HMX.out.val, HMY.out.val] at HL
          go_wp2
          go_quiet (fail)
          go_wp2
          rw [HPO.out, ord_lt HL.out]
          exact ⟨rfl, bdN hb nq⟩
        · have hlt' : decide (x < y) = false := by simpa using hlt
          by_cases hgt : y < x
          · have HL := Lib.hid (mag_less HMY.out.gs HGY.out HGX.out HD.out.symm hgt)
            rw [HMX.out.val, HMY.out.val] at HL
            clear hlt
            go_wp2
            go_quiet (fail)
            have d1'' : (wr.drewN nq).cell? ⟨b1, o1 + k', none⟩ = some (.int .i64 x) := d1'
            have d2'' : (wr.drewN nq).cell? ⟨b2, o2 + k', none⟩ = some (.int .i64 y) := d2'
            have hb' := bdN hb nq
            clear d1' d2' hb
            generalize wr.drewN nq = wq at *
            go_wp2
            go_quiet (fail)
            go_wp2
            rw [HPO.out, ord_gt HL.out]
            exact ⟨rfl, bdN hb' _⟩
          · have hgt' : decide (y < x) = false := by simpa using hgt
            obtain rfl : x = y := by omega
            have HD2 := Lib.hid (show xs.drop k' = ys.drop k' by
              obtain ⟨l1, e1⟩ := List.getElem?_eq_some_iff.1 HGX.out
              obtain ⟨l2, e2⟩ := List.getElem?_eq_some_iff.1 HGY.out
              rw [List.drop_eq_getElem_cons l1, List.drop_eq_getElem_cons l2, e1, e2, HD.out])
            clear hlt hgt
            go_wp2
            go_quiet (fail)
            have d1'' : (wr.drewN nq).cell? ⟨b1, o1 + k', none⟩ = some (.int .i64 x) := d1'
            have d2'' : (wr.drewN nq).cell? ⟨b2, o2 + k', none⟩ = some (.int .i64 x) := d2'
            have hb' := bdN hb nq
            clear d1' d2' hb
            generalize wr.drewN nq = wq at *
            go_wp2
            go_quiet (fail)
            go_wp2
            go_roundw
            case rel => exact ⟨k', (k' : Int) - 1, rfl, by show _ = _; rfl, by omega, HD2, bdN hb' _⟩
            case measure => simp [intOf]
  · have hne : ((n : Int) != (m : Int)) = true := by simp; omega
    by_cases hlt : n < m
    · have HL := Lib.hid (mag_short HMX.out HMY.out (by rw [← HXN.out, ← HYN.out]; omega))
      have hd : decide (n < m) = true := by simpa using hlt
      clear hnm
      go_enter Tryz.func142, Tryz.ntmps142
      go_wp2
      rw [HPO.out, ord_lt HL.out]
      exact ⟨rfl, Below.refl _ _⟩
    · have HL := Lib.hid (mag_short HMY.out HMX.out (by rw [← HXN.out, ← HYN.out]; omega))
      have hd : decide (n < m) = false := by simpa using hlt
      clear hnm
      go_enter Tryz.func142, Tryz.ntmps142
      go_wp2
      rw [HPO.out, ord_gt HL.out]
      exact ⟨rfl, Below.refl _ _⟩
end Go.Proofs.YtpnncoinlopndaaGreatDoor

namespace Go.Proofs.YtpnncoinlopndaaGreatDoor
open Go.RowKit Go.Shelf
structure RPInv (xs ys : List Nat) (i carry : Nat) (os : List Nat) : Prop where
  len : os.length = i
  val : gv os + 1000000000 ^ i * carry = gv (xs.take i) + gv (ys.take i)
  gs : Gs os
  one : carry ≤ 1
theorem RPInv.zero (xs ys : List Nat) : RPInv xs ys 0 0 [] := ⟨rfl, by simp [gv], Gs.nil, by omega⟩
theorem RPInv.step {xs ys os : List Nat} {i carry : Nat} (h : RPInv xs ys i carry os) (hgx : Gs xs) (hgy : Gs ys) :
    RPInv xs ys (i + 1) ((gAt xs i + gAt ys i + carry) / 1000000000) (os ++ [(gAt xs i + gAt ys i + carry) % 1000000000]) := by
  have h1 := gAt_lt hgx i
  have h2 := gAt_lt hgy i
  have h3 := h.one
  refine ⟨by rw [List.length_append, h.len]; rfl, ?_, h.gs.snoc (by omega), by omega⟩
  rw [gv_snoc, h.len, gv_take_g xs i, gv_take_g ys i]
  have hv := h.val
  generalize hs : gAt xs i + gAt ys i + carry = s at *
  have e : 1000000000 ^ i * (s % 1000000000) + 1000000000 ^ (i + 1) * (s / 1000000000) = 1000000000 ^ i * s := by
    rw [Nat.pow_succ, Nat.mul_assoc, ← Nat.mul_add]
    congr 1
    omega
  have e2 : 1000000000 ^ i * s = 1000000000 ^ i * gAt xs i + 1000000000 ^ i * gAt ys i + 1000000000 ^ i * carry := by rw [← hs, Nat.mul_add, Nat.mul_add]
  omega
theorem RPInv.done {xs ys os : List Nat} {i : Nat} (h : RPInv xs ys i 0 os) (hx : xs.length ≤ i) (hy : ys.length ≤ i) : gv os = gv xs + gv ys := by
  have hv := h.val
  rw [List.take_of_length_le hx, List.take_of_length_le hy] at hv
  simpa using hv
theorem gAt_out {xs : List Nat} {i : Nat} (h : xs.length ≤ i) : gAt xs i = 0 := by
  unfold gAt
  simp [List.getD, List.getElem?_eq_none h]
def MagIPost (v : Nat) (w : World) (e : Ending) (w' : World) : Prop := ∃ A n c xs, e = .returned (.slice A n c) ∧ Gi w' w'.heap.size A n xs ∧ n ≤ c ∧ Mag xs v ∧ Below w.heap.size w w'
set_option maxRecDepth 20000 in
set_option maxHeartbeats 400000 in
theorem rPlus_any (A A' : Option Addr) (n m c c' : Nat) (xs ys : List Nat) (u v : Nat) (w : World) (hx : Gi w w.heap.size A n xs) (hy : Gi w w.heap.size A' m ys) (mx : Mag xs u) (my : Mag ys v) (hn : n ≤ 1000000) (hm : m ≤ 1000000) :
    Calls Tryz.prog 141 #[.slice A n c, .slice A' m c'] w (MagIPost (u + v) w) := by
  have HX := Lib.hid hx; have HY := Lib.hid hy; have HMX := Lib.hid mx; have HMY := Lib.hid my
  have HXN := Lib.hid hx.1; have HYN := Lib.hid hy.1
  have HPO := Lib.hid (show MagIPost (u + v) w = fun e w' => ∃ A n c xs, e = .returned (.slice A n c) ∧ Gi w' w'.heap.size A n xs ∧ n ≤ c ∧ Mag xs (u + v) ∧ Below w.heap.size w w' from rfl)
  generalize MagIPost (u + v) w = post at *
  clear hx hy mx my
  have HO0 := Lib.hid (Own.lit (enc := G1) (k := 1) (base := w.heap.size) w #[] 3 [] rfl G1_len (Nat.le_refl _) (by simp))
  go_enter Tryz.func141, Tryz.ntmps141
  go_wp2_with fail
  go_loopw [5, 6, 7] (fun o cy i wr => ∃ (k carry co : Nat) (Ao : Option Addr) (os : List Nat), i = .int .i64 k ∧ cy = .int .i64 carry ∧ o = .slice Ao k co ∧ carry ≤ 1 ∧ k ≤ n + m + 1 ∧ Hid (n ≤ k → m ≤ k → n + m < k → carry = 0) ∧ Hid (RPInv xs ys k carry os) ∧ Hid (Own G1 1 3 wr w.heap.size (.slice Ao k co) os) ∧ Below w.heap.size w wr) (fun _ _ i _ => n + m + 1 - (intOf i).toNat)
  case atStart => exact ⟨0, 0, 0, _, [], rfl, rfl, rfl, by omega, by omega, by show _ → _ → _ → _; intros; rfl, RPInv.zero xs ys, HO0, (Below.refl _ _).alloc (Nat.le_refl _) _⟩
  case round =>
    clear HO0
    obtain ⟨k, carry, co, Ao, os, rfl, rfl, rfl, hcy, hk, HZ, HI, HO, hb⟩ := hrel
    obtain ⟨bb, hbb⟩ : ∃ bb : Bool, bb = decide (k < n ∨ k < m ∨ 0 < carry) := ⟨_, rfl⟩
    have HBB := Lib.hid hbb; clear hbb
    go_upto_region 4 with (fail)
    go_cut [23] (fun s wc => s = .bool bb ∧ wc = wr)
    case first =>
      by_cases h1 : k < n
      · have hd : decide (k < n) = true := by simpa using h1
        go_wp2_with fail
        go_meet
        exact ⟨by rw [HBB.out]; simp [h1], rfl⟩
      · have hd : decide (k < n) = false := by simpa using h1
        by_cases h2 : k < m
        · have hd2 : decide (k < m) = true := by simpa using h2
          go_wp2_with fail
          go_meet
          exact ⟨by rw [HBB.out]; simp [h2], rfl⟩
        · have hd2 : decide (k < m) = false := by simpa using h2
          by_cases h3 : 0 < carry
          · have hd3 : decide (0 < carry) = true := by simpa using h3
            go_wp2_with fail
            go_meet
            exact ⟨by rw [HBB.out]; simp [h3], rfl⟩
          · have hd3 : decide (0 < carry) = false := by simpa using h3
            go_wp2_with fail
            go_meet
            exact ⟨by rw [HBB.out]; simp [h1, h2, h3], rfl⟩
    case rest =>
    obtain ⟨rfl, hwc⟩ := hcut
    obtain ⟨w1, rfl⟩ : ∃ W, W = wc := ⟨_, rfl⟩
    subst hwc
    cases bb with
    | true =>
      have hgo : k < n ∨ k < m ∨ 0 < carry := by have := HBB.out; simpa using this
      have hkl : k ≤ n + m := by
        rcases Nat.lt_or_ge (n + m) k with h | h
        · have := HZ.out (by omega) (by omega) h; omega
        · exact h
      have HGX := Lib.hid (rGroup_any A n c xs k w1 (HX.out.here hb) (by omega) (by omega))
      have HGY := Lib.hid (rGroup_any A' m c' ys k w1 (HY.out.here hb) (by omega) (by omega))
      have hx9 := gAt_lt HMX.out.gs k; have hy9 := gAt_lt HMY.out.gs k
      have HST := Lib.hid (HI.out.step HMX.out.gs HMY.out.gs)
      have HZ2 := Lib.hid (show n ≤ k + 1 → m ≤ k + 1 → n + m < k + 1 → (gAt xs k + gAt ys k + carry) / 1000000000 = 0 by
        intro _ _ h
        rw [gAt_out (by rw [← HXN.out]; omega), gAt_out (by rw [← HYN.out]; omega)]
        omega)
      generalize gAt xs k = gx at *
      generalize gAt ys k = gy at *
      obtain ⟨s, hs⟩ : ∃ s, s = gx + gy + carry := ⟨_, rfl⟩
      rw [← hs] at HST HZ2
      have hsi : (gx : Int) + (gy : Int) + (carry : Int) = (s : Int) := by omega
      have hsl : s ≤ 1999999999 := by omega
      clear hs hgo HBB
      have HIL := Lib.hid HI.out.len
      obtain ⟨q1, q2, q3, hf⟩ := HO.out.facts; clear q1 q2 q3
      have HF := Lib.hid hf; clear hf
      go_wp2_with fail
      (with_reducible refine HGX.out.mono ?_)
      rintro e w2 ⟨rfl, rfl⟩
      go_wp2_with fail
      (with_reducible refine HGY.out.mono ?_)
      rintro e w2 ⟨rfl, rfl⟩
      obtain ⟨sr, hsr⟩ : ∃ sr, sr = s % 1000000000 := ⟨_, rfl⟩
      have hsm : (s : Int) % 1000000000 = (sr : Int) := by omega
      rw [← hsr] at HST
      clear hsr
      go_wp2_with (at_builtin; refine wpList_app _ rfl (.tmp 35) (.tmp 38) _ rfl elemInts G1_len G1_one (base := w.heap.size) (.slice Ao k co) os rfl (HO.out.alloc _) _ _ 1 1 [sr] rfl (Sl.lit w1 #[.int .i64 sr] 3 [sr] rfl G1_len) (by rw [HIL.out]; omega) (by have := hb.size; simp; omega) ?_; intro A4 c4 w4 ho4 hg4 hat4; rw [HIL.out] at ho4 ⊢)
      have hb4 : Below w.heap.size w w4 := below_grown (hb.alloc hb.size _) hg4 (by have := hb.size; simp; omega) (fun g' e => by
        rcases HF.out with ⟨rfl, _⟩ | ⟨g, rfl, hg1, hg2⟩
        · simp [Value.ownBlock] at e
        · simp [Value.ownBlock] at e; omega)
      have HO4 := Lib.hid ho4; clear ho4 hg4 hat4
      go_roundw
      case rel => exact ⟨k + 1, s / 1000000000, c4, A4, os ++ [sr], by go_num, by go_num, rfl, by omega, by omega, HZ2, HST, HO4, hb4⟩
      case measure => simp [intOf]; omega
    | false =>
      have hno : ¬ (k < n ∨ k < m ∨ 0 < carry) := by have := HBB.out; simpa using this
      obtain rfl : carry = 0 := by omega
      have HV := Lib.hid (HI.out.done (by rw [← HXN.out]; omega) (by rw [← HYN.out]; omega))
      rw [HMX.out.val, HMY.out.val] at HV
      have HOF := Lib.hid HO.out.facts
      have HTR := Lib.hid (rTrim_any Ao k co os w1 (HO.out.sl G1_len) (by have := HOF.out.2.1; have := HOF.out.1; omega) (by omega))
      clear hno HBB HZ
      go_wp2_with fail
      (with_reducible refine HTR.out.mono ?_)
      rintro e w3 ⟨j, rfl, hj, hgv, hnz, rfl⟩
      go_wp2_with fail
      rw [HPO.out]
      exact ⟨Ao, j, co, os.take j, rfl, (HO.out.sl G1_len).take hj, by have := HOF.out.2.1; have := HOF.out.1; omega, ⟨HI.out.gs.take j, hnz, by rw [hgv]; exact HV.out⟩, hb⟩
end Go.Proofs.YtpnncoinlopndaaGreatDoor

