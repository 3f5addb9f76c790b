/- Contract of the reference's Compare. -/
import Derived.Test.YtaiikjgoofefgaaGreatDoorQG1s9
import Derived.Test.YtaiikjgoofefgaaGreatDoorQG1s3
import Derived.Laws.Cover1
namespace Go.Proofs.YtaiikjgoofefgaaGreatDoor
open Go.RowKit Go.Shelf

theorem toList_mk (s : List UInt8) : (⟨s.toArray⟩ : ByteArray).toList = s := by rw [Lib.toList_data]
theorem valD_one (b : UInt8) : valD [b] = b.toNat - 48 := by simp [valD]
theorem valD_cons_ (b : UInt8) (l : List UInt8) : valD (b :: l) = (b.toNat - 48) * 10 ^ l.length + valD l := by
  rw [show b :: l = [b] ++ l from rfl, valD_append, valD_one]
theorem valD_short {s t : List UInt8} (hs : s.all isDig = true) (ht : t.all isDig = true) (hz : ∀ b l, t = b :: l → (b == 48) = false) (h : s.length < t.length) : valD s < valD t := by
  cases t with
  | nil => simp at h
  | cons b l =>
    have h1 := valD_lt hs
    have hb : isDig b = true := by simp at ht; exact ht.1
    have h2 := (isDig_iff b).1 hb
    have h3 : b ≠ 48 := by have := hz b l rfl; simpa using this
    have h4 : b.toNat ≠ 48 := fun h => h3 (by rw [← UInt8.toNat_inj]; exact h)
    have h5 : 10 ^ s.length ≤ 10 ^ l.length := Nat.pow_le_pow_right (by omega) (by simp at h; omega)
    rw [valD_cons_]
    have h6 : 1 * 10 ^ l.length ≤ (b.toNat - 48) * 10 ^ l.length := Nat.mul_le_mul_right _ (by omega)
    omega
theorem dig_step {P x y b c : Nat} (hx : x < P) (hy : y < P) : (b * P + x < c * P + y ↔ b < c ∨ (b = c ∧ x < y)) := by
  rcases Nat.lt_trichotomy b c with h | h | h
  · have : (b + 1) * P ≤ c * P := Nat.mul_le_mul_right _ h
    rw [Nat.add_mul] at this
    constructor
    · intro _; exact .inl h
    · intro _; omega
  · subst h; constructor
    · intro h2; exact .inr ⟨rfl, by omega⟩
    · rintro (h2 | h2) <;> omega
  · have : (c + 1) * P ≤ b * P := Nat.mul_le_mul_right _ h
    rw [Nat.add_mul] at this
    constructor
    · intro h2; omega
    · rintro (h2 | h2) <;> omega
theorem bytesLess_dig : ∀ (s t : List UInt8), s.all isDig = true → t.all isDig = true → s.length = t.length → Op.bytesLess s t = decide (valD s < valD t)
  | [], [], _, _, _ => by simp [Op.bytesLess]
  | _ :: _, [], _, _, h => by simp at h
  | [], _ :: _, _, _, h => by simp at h
  | b :: s, c :: t, hs, ht, h => by
    simp only [List.all_cons, Bool.and_eq_true] at hs ht
    have hl : s.length = t.length := by simpa using h
    have ih := bytesLess_dig s t hs.2 ht.2 hl
    rw [Op.bytesLess, ih, valD_cons_, valD_cons_, hl]
    have h1 := (isDig_iff b).1 hs.1
    have h2 := (isDig_iff c).1 ht.1
    have h3 := valD_lt hs.2
    have h4 := valD_lt ht.2
    rw [hl] at h3
    rw [Bool.eq_iff_iff]
    simp only [Bool.or_eq_true, Bool.and_eq_true, decide_eq_true_eq, beq_iff_eq]
    rw [dig_step h3 h4, UInt8.lt_iff_toNat_lt, ← UInt8.toNat_inj]
    omega
theorem dig_same {P x y b c : Nat} (hx : x < P) (hy : y < P) (h : b * P + x = c * P + y) : b = c ∧ x = y := by
  have h1 := dig_step (b := b) (c := c) hx hy
  have h2 := dig_step (b := c) (c := b) hy hx
  omega
theorem valD_inj : ∀ (s t : List UInt8), s.all isDig = true → t.all isDig = true → s.length = t.length → valD s = valD t → s = t
  | [], [], _, _, _, _ => rfl
  | _ :: _, [], _, _, h, _ => by simp at h
  | [], _ :: _, _, _, h, _ => by simp at h
  | b :: s, c :: t, hs, ht, h, hv => by
    simp only [List.all_cons, Bool.and_eq_true] at hs ht
    have hl : s.length = t.length := by simpa using h
    rw [valD_cons_, valD_cons_, hl] at hv
    have h1 := (isDig_iff b).1 hs.1
    have h2 := (isDig_iff c).1 ht.1
    have h3 := valD_lt hs.2
    have h4 := valD_lt ht.2
    rw [hl] at h3
    obtain ⟨e1, e2⟩ := dig_same h3 h4 hv
    have : b = c := by rw [← UInt8.toNat_inj]; omega
    rw [this, valD_inj s t hs.2 ht.2 hl e2]
set_option maxRecDepth 20000 in
set_option maxHeartbeats 1000000 in
theorem rCompare_any (a b : List UInt8) (w : World) (ha : a.length ≤ 100000000) (hb : b.length ≤ 100000000) : Calls Tryz.prog 42 #[S a, S b] w fun e w' => e = .returned (.int .i64 (sgnI (val a - val b))) ∧ w = w' := by
  have HDa := Lib.hid (rDigits_any a w (by omega))
  have HDb := Lib.hid (rDigits_any b w (by omega))
  have hla := digL_len a; have hlb := digL_len b
  have HS := Lib.hid (fun (r : Int) => cmp_sv (r := r) (sv_val a).symm (sv_val b).symm (sv_neg a) (sv_neg b))
  obtain ⟨hda, hza, _⟩ := digL_ok a
  obtain ⟨hdb, hzb, _⟩ := digL_ok b
  have HLT := Lib.hid (fun h => valD_short hda hdb hzb h)
  have HGT := Lib.hid (fun h => valD_short hdb hda hza h)
  have HBL := Lib.hid (bytesLess_dig _ _ hda hdb)
  have HIN := Lib.hid (valD_inj _ _ hda hdb)
  have HIN2 := Lib.hid (show (digL a).1 = (digL b).1 → valD (digL a).1 = valD (digL b).1 from fun h => by rw [h])
  clear hda hza hdb hzb
  generalize sgnI (val a - val b) = res at *
  generalize (digL a).2 = na at *
  generalize (digL b).2 = nb at *
  generalize (digL a).1 = s at *
  generalize (digL b).1 = t at *
  generalize valD s = u at *
  generalize valD t = v at *
  have hsa : (⟨s.toArray⟩ : ByteArray).size = s.length := str_size s
  have hsb : (⟨t.toArray⟩ : ByteArray).size = t.length := str_size t
  unfold S at *
  have hl1 : s.length ≤ 100000000 := by omega
  have hl2 : t.length ≤ 100000000 := by omega
  clear ha hb hla hlb
  go_enter Tryz.func42, Tryz.ntmps42
  go_wp2_with fail
  refine HDa.out.mono ?_
  rintro e w1 ⟨rfl, rfl⟩
  go_wp2_with fail
  refine HDb.out.mono ?_
  rintro e w1 ⟨rfl, rfl⟩
  clear HDa HDb
  rcases Nat.lt_trichotomy s.length t.length with hl | hl | hl
  · have HV := Lib.hid (HLT.out hl)
    have HC := Lib.hid (HS.out (-1) ⟨fun _ => HV.out, fun _ => by omega⟩ ⟨fun h => by omega, fun h => by have := HV.out; omega⟩)
    clear HS HLT HGT HBL HIN HIN2 HV
    obtain ⟨k1, k2, k3, k4⟩ := HC.out
    clear HC
    have HRES := Lib.hid (show res = (if na then (if nb then 1 else -1) else (if nb then 1 else -1)) by cases na <;> cases nb <;> first | (rw [k1 ⟨rfl, rfl⟩]; rfl) | (rw [k2 ⟨rfl, rfl⟩]; rfl) | (rw [k3 ⟨rfl, rfl⟩]; rfl) | (rw [k4 ⟨rfl, rfl⟩]; rfl))
    clear k1 k2 k3 k4
    cases na <;> cases nb
    all_goals
      go_wp2_with fail
      first | go_ret | skip
      rw [HRES.out]
      exact ⟨rfl, rfl⟩
  · have HSA := Lib.hid (toList_mk s); have HSB := Lib.hid (toList_mk t)
    have HB := Lib.hid (HBL.out hl)
    rcases Nat.lt_trichotomy u v with hv | hv | hv
    · have HV := Lib.hid hv
      have HC := Lib.hid (HS.out (-1) ⟨fun _ => HV.out, fun _ => by omega⟩ ⟨fun h => by omega, fun h => by have := HV.out; omega⟩)
      have hlt : Op.bytesLess s t = true := by rw [HB.out]; simpa using hv
      have hlt2 : Op.bytesLess (⟨s.toArray⟩ : ByteArray).toList (⟨t.toArray⟩ : ByteArray).toList = true := by rw [HSA.out, HSB.out]; exact hlt
      clear HB HSA HSB hv
      clear HS HLT HGT HBL HIN HIN2 HV
      obtain ⟨k1, k2, k3, k4⟩ := HC.out
      clear HC
      have HRES := Lib.hid (show res = (if na then (if nb then 1 else -1) else (if nb then 1 else -1)) by cases na <;> cases nb <;> first | (rw [k1 ⟨rfl, rfl⟩]; rfl) | (rw [k2 ⟨rfl, rfl⟩]; rfl) | (rw [k3 ⟨rfl, rfl⟩]; rfl) | (rw [k4 ⟨rfl, rfl⟩]; rfl))
      clear k1 k2 k3 k4
      cases na <;> cases nb
      all_goals
        go_wp2_with fail
        first | go_ret | skip
        rw [HRES.out]
        exact ⟨rfl, rfl⟩
    · have HV := Lib.hid hv
      have HC := Lib.hid (HS.out 0 ⟨fun _ => by omega, fun _ => by omega⟩ ⟨fun h => by omega, fun h => by have := HV.out; omega⟩)
      have hst := HIN.out hl hv
      have hlt : Op.bytesLess s t = false := by rw [HB.out]; simp; omega
      have hlt2 : Op.bytesLess (⟨s.toArray⟩ : ByteArray).toList (⟨t.toArray⟩ : ByteArray).toList = false := by rw [HSA.out, HSB.out]; exact hlt
      subst hst
      clear HB HSA HSB hv
      clear HS HLT HGT HBL HIN HIN2 HV
      obtain ⟨k1, k2, k3, k4⟩ := HC.out
      clear HC
      have HRES := Lib.hid (show res = (if na then (if nb then 0 else -1) else (if nb then 1 else 0)) by cases na <;> cases nb <;> first | (rw [k1 ⟨rfl, rfl⟩]; rfl) | (rw [k2 ⟨rfl, rfl⟩]; rfl) | (rw [k3 ⟨rfl, rfl⟩]; rfl) | (rw [k4 ⟨rfl, rfl⟩]; rfl))
      clear k1 k2 k3 k4
      cases na <;> cases nb
      all_goals
        go_wp2_with fail
        first | go_ret | skip
        rw [HRES.out]
        exact ⟨rfl, rfl⟩
    · have HV := Lib.hid hv
      have HC := Lib.hid (HS.out 1 ⟨fun _ => by omega, fun _ => by omega⟩ ⟨fun h => HV.out, fun h => by omega⟩)
      have hlt : Op.bytesLess s t = false := by rw [HB.out]; simp; omega
      have hlt2 : Op.bytesLess (⟨s.toArray⟩ : ByteArray).toList (⟨t.toArray⟩ : ByteArray).toList = false := by rw [HSA.out, HSB.out]; exact hlt
      have hne : (s == t) = false := by
        rw [Bool.eq_false_iff]; intro h
        have := HIN2.out (by simpa using h)
        omega
      have hne2 : ((⟨s.toArray⟩ : ByteArray).toList == (⟨t.toArray⟩ : ByteArray).toList) = false := by rw [HSA.out, HSB.out]; exact hne
      clear HB HSA HSB hv
      clear HS HLT HGT HBL HIN HIN2 HV
      obtain ⟨k1, k2, k3, k4⟩ := HC.out
      clear HC
      have HRES := Lib.hid (show res = (if na then (if nb then -1 else -1) else (if nb then 1 else 1)) by cases na <;> cases nb <;> first | (rw [k1 ⟨rfl, rfl⟩]; rfl) | (rw [k2 ⟨rfl, rfl⟩]; rfl) | (rw [k3 ⟨rfl, rfl⟩]; rfl) | (rw [k4 ⟨rfl, rfl⟩]; rfl))
      clear k1 k2 k3 k4
      cases na <;> cases nb
      all_goals
        go_wp2_with fail
        first | go_ret | skip
        rw [HRES.out]
        exact ⟨rfl, rfl⟩
  · have HV := Lib.hid (HGT.out hl)
    have HC := Lib.hid (HS.out 1 ⟨fun h => by omega, fun h => by have := HV.out; omega⟩ ⟨fun _ => HV.out, fun _ => by omega⟩)
    clear HS HLT HGT HBL HIN HIN2 HV
    obtain ⟨k1, k2, k3, k4⟩ := HC.out
    clear HC
    have HRES := Lib.hid (show res = (if na then (if nb then -1 else -1) else (if nb then 1 else 1)) by cases na <;> cases nb <;> first | (rw [k1 ⟨rfl, rfl⟩]; rfl) | (rw [k2 ⟨rfl, rfl⟩]; rfl) | (rw [k3 ⟨rfl, rfl⟩]; rfl) | (rw [k4 ⟨rfl, rfl⟩]; rfl))
    clear k1 k2 k3 k4
    cases na <;> cases nb
    all_goals
      go_wp2_with fail
      first | go_ret | skip
      rw [HRES.out]
      exact ⟨rfl, rfl⟩
end Go.Proofs.YtaiikjgoofefgaaGreatDoor
