/- Merged texts: R11, R12, R13, R14, R16. -/
import Derived.Test.YtpnncoinlopndaaGreatDoorQGTn25
import Derived.Test.YtpnncoinlopndaaGreatDoorQGTn4
import Derived.Laws.Cover1
namespace Go.Proofs.YtpnncoinlopndaaGreatDoor
open Go.RowKit Go.Shelf
theorem short_facts (a : List UInt8) : -100000000000000000 < (shortL a).1 ∧ (shortL a).1 < 100000000000000000 ∧ ((shortL a).2 = true → (shortL a).1 = val a) := by
  unfold shortL
  split
  · rename_i h
    have h1 := valD_lt (digL_ok a).1
    have h2 : 10 ^ (digL a).1.length ≤ 10 ^ 17 := Nat.pow_le_pow_right (by omega) h
    have h3 := sv_val a
    refine ⟨?_, ?_, fun _ => rfl⟩ <;> (show _ < _; simp only; rw [← h3]; unfold sv; split <;> omega)
  · exact ⟨by decide, by decide, fun h => by simp at h⟩
end Go.Proofs.YtpnncoinlopndaaGreatDoor

namespace Go.Proofs.YtpnncoinlopndaaGreatDoor
open Go.RowKit Go.Shelf
theorem small_mul {m n : Int} (h1 : -1000000000 < m) (h2 : m < 1000000000) (h3 : -1000000000 < n) (h4 : n < 1000000000) : -1000000000000000000 ≤ m * n ∧ m * n ≤ 1000000000000000000 := by
  have h : (m * n).natAbs ≤ 1000000000 * 1000000000 := by
    rw [Int.natAbs_mul]
    exact Nat.mul_le_mul (by omega) (by omega)
  omega
set_option maxRecDepth 20000 in
set_option maxHeartbeats 2000000 in
theorem rMul_any (a b : List UInt8) (w : World) (ha : a.length ≤ 100000) (hb : b.length ≤ 100000) : Calls Tryz.prog 90 #[S a, S b] w (StrPost (txtL (val a * val b)) w) := by
  have HSa := Lib.hid (rShort_any a w (by omega))
  have HSb := Lib.hid (rShort_any b w (by omega))
  have HRa := Lib.hid (rRead_any a w (by omega))
  have HRb := Lib.hid (fun W => rRead_any b W (by omega))
  obtain ⟨K, hK⟩ : ∃ K : Nat, K = 100000 := ⟨_, rfl⟩
  have hva := valD_small (show a.length ≤ K by omega)
  have hvb := valD_small (show b.length ≤ K by omega)
  have HK := Lib.hid hK; clear hK
  have HS := Lib.hid (show sv ((digL a).2 != (digL b).2) (valD (digL a).1 * valD (digL b).1) = val a * val b by rw [sv_mul, sv_val, sv_val])
  have HPO := Lib.hid (show StrPost (txtL (val a * val b)) w = fun e w' => e = .returned (S (txtL (val a * val b))) ∧ Below w.heap.size w w' from rfl)
  obtain ⟨la, ua, ea⟩ := short_facts a
  obtain ⟨lb, ub, eb⟩ := short_facts b
  have HEA := Lib.hid ea; have HEB := Lib.hid eb; clear ea eb
  unfold RReadPost at HRa HRb
  generalize StrPost (txtL (val a * val b)) w = post at *
  generalize (digL a).2 = na at *
  generalize (digL b).2 = nb at *
  generalize valD (digL a).1 = u at *
  generalize valD (digL b).1 = v at *
  generalize (shortL a).1 = m at *
  generalize (shortL b).1 = n at *
  generalize (shortL a).2 = ka at *
  generalize (shortL b).2 = kb at *
  have HVA := Lib.hid hva; have HVB := Lib.hid hvb
  have HUV := Lib.hid (show u * v < 1000000000 ^ (K + K) by rw [Nat.pow_add]; exact Nat.mul_lt_mul'' hva hvb)
  clear ha hb hva hvb
  unfold S at *
  go_enter Tryz.func90, Tryz.ntmps90
  go_wp2_with fail
  refine HSa.out.mono ?_
  rintro e w1 ⟨rfl, rfl⟩
  go_wp2_with fail
  refine HSb.out.mono ?_
  rintro e w1 ⟨rfl, rfl⟩
  by_cases hk : ka = true ∧ kb = true ∧ m < 1000000000 ∧ m > -1000000000 ∧ n < 1000000000 ∧ n > -1000000000
  · obtain ⟨rfl, rfl, h1, h2, h3, h4⟩ := hk
    obtain ⟨p, hp⟩ : ∃ p, m * n = p := ⟨_, rfl⟩
    have hpb := small_mul h2 h1 h4 h3
    rw [hp] at hpb
    obtain ⟨hp1, hp2⟩ := hpb
    have HOF := Lib.hid (rOf_any p (by omega) (by omega) w)
    rw [← HEA.out rfl, ← HEB.out rfl, hp] at HPO
    unfold S at HOF
    clear HRa HRb HS HVA HVB HUV HEA HEB
    have e1 : decide (m < 1000000000) = true := by simpa using h1
    have e2 : decide (m > -1000000000) = true := by simpa using h2
    have e3 : decide (n < 1000000000) = true := by simpa using h3
    have e4 : decide (n > -1000000000) = true := by simpa using h4
    go_wp2_with fail
    refine HOF.out.mono ?_
    rintro e w1 ⟨rfl, rfl⟩
    go_wp2_with fail
    rw [HPO.out]
    exact ⟨rfl, Below.refl _ _⟩
  · have hcase : ka = false ∨ (ka = true ∧ kb = false) ∨ (ka = true ∧ kb = true ∧ ¬ m < 1000000000) ∨ (ka = true ∧ kb = true ∧ m < 1000000000 ∧ ¬ m > -1000000000) ∨ (ka = true ∧ kb = true ∧ m < 1000000000 ∧ m > -1000000000 ∧ ¬ n < 1000000000) ∨ (ka = true ∧ kb = true ∧ m < 1000000000 ∧ m > -1000000000 ∧ n < 1000000000 ∧ ¬ n > -1000000000) := by
      cases ka <;> cases kb <;> simp at hk ⊢ <;> omega
    clear HEA HEB HSa HSb la ua lb ub hk
    rcases hcase with rfl | ⟨rfl, rfl⟩ | ⟨rfl, rfl, h1⟩ | ⟨rfl, rfl, h1, h2⟩ | ⟨rfl, rfl, h1, h2, h3⟩ | ⟨rfl, rfl, h1, h2, h3, h4⟩
    all_goals
      go_wp2_with fail
      refine HRa.out.mono ?_
      rintro e w1 ⟨A1, n1, c1, xs, rfl, ho1, hc1, mg1, hb1⟩
      have HO1 := Lib.hid ho1; have HM1 := Lib.hid mg1; clear ho1 mg1 HRa
      go_wp2_with fail
      refine (HRb.out _).mono ?_
      rintro e w2 ⟨A2, n2, c2, ys, rfl, ho2, hc2, mg2, hb2⟩
      have HX1 := Lib.hid (HO1.out.here hb2)
      have HX2 := Lib.hid ho2; have HM2 := Lib.hid mg2; clear ho2 mg2 HRb
      have HL1 := Lib.hid (show n1 ≤ K by rw [HX1.out.1]; exact HM1.out.len HVA.out)
      have HL2 := Lib.hid (show n2 ≤ K by rw [HX2.out.1]; exact HM2.out.len HVB.out)
      have hb02 := hb1.trans (hb2.mono hb1.size)
      go_wp2_with fail
      have hN1 : RNumB ((w2.alloc (.cells #[.bool na, .slice A1 n1 c1] 126)).alloc (.cells #[.bool nb, .slice A2 n2 c2] 126)) w2.heap.size na A1 n1 c1 := (RNumB.new w2 na A1 n1 c1).alloc _
      have hN2 : RNumB ((w2.alloc (.cells #[.bool na, .slice A1 n1 c1] 126)).alloc (.cells #[.bool nb, .slice A2 n2 c2] 126)) (w2.heap.size + 1) nb A2 n2 c2 := by
        have := RNumB.new (w2.alloc (.cells #[.bool na, .slice A1 n1 c1] 126)) nb A2 n2 c2
        simpa using this
      have hbA : Below w2.heap.size w2 ((w2.alloc (.cells #[.bool na, .slice A1 n1 c1] 126)).alloc (.cells #[.bool nb, .slice A2 n2 c2] 126)) := ((Below.refl _ _).alloc (Nat.le_refl _) _).alloc (by simp) _
      have HX1' := Lib.hid (HX1.out.here hbA); have HX2' := Lib.hid (HX2.out.here hbA)
      have hb0A := hb02.trans (hbA.mono hb02.size)
      obtain ⟨x0, x1⟩ := hN1.cells
      obtain ⟨y0, y1⟩ := hN2.cells
      have HN1 := Lib.hid hN1; have HN2 := Lib.hid hN2
      clear hN1 hN2 hbA HX1 HX2 HO1
      generalize (w2.alloc (.cells #[.bool na, .slice A1 n1 c1] 126)).alloc (.cells #[.bool nb, .slice A2 n2 c2] 126) = W at *
      have HTM := Lib.hid (rTimes_any A1 A2 n1 n2 c1 c2 xs ys u v W.drew HX1'.out.drew HX2'.out.drew HM1.out HM2.out (by have := HL1.out; have := HK.out; omega) (by have := HL2.out; have := HK.out; omega))
      go_region_held3 (fun w' => w'.cell? ⟨w2.heap.size, 0, none⟩ = some (.bool na) ∧ w'.cell? ⟨w2.heap.size, 1, none⟩ = some (.slice A1 n1 c1) ∧ w'.cell? ⟨w2.heap.size + 1, 0, none⟩ = some (.bool nb) ∧ w'.cell? ⟨w2.heap.size + 1, 1, none⟩ = some (.slice A2 n2 c2))
        (first
          | exact ⟨x0, x1, y0, y1⟩
          | exact ⟨(HN1.out.here hbz).cells.1, (HN1.out.here hbz).cells.2, (HN2.out.here hbz).cells.1, (HN2.out.here hbz).cells.2⟩
          | exact ⟨(HN1.out.here hbz4).cells.1, (HN1.out.here hbz4).cells.2, (HN2.out.here hbz4).cells.1, (HN2.out.here hbz4).cells.2⟩)
        (first
        | (go_at_call 139; refine HTM.out.mono ?_; rintro e w3 ⟨A3, n3, c3, zs, rfl, ho3, hc3, mg3, hb3⟩
           have hbz : Below W.heap.size W w3 := (Below.refl _ W).drew.trans hb3
           have HX3 := Lib.hid ho3
           have HL3 := Lib.hid (show n3 ≤ K + K by rw [HX3.out.1]; exact mg3.len HUV.out)
           have hb03 := hb0A.trans (hbz.mono hb0A.size)
           have HTX := Lib.hid (rWrite_any (na != nb) A3 n3 c3 zs w3 HX3.out mg3.gs (by have := HL3.out; have := HK.out; omega))
           rw [mg3.val, numT_sv, HS.out] at HTX
           unfold S at HTX
           clear ho3 mg3 hb3)
        | (go_at_call 95; refine HTX.out.mono ?_; rintro e w4 ⟨rfl, hb4⟩; have hbz4 := hbz.trans (hb4.mono hbz.size)))
    all_goals
      go_wp2_with fail
      rw [HPO.out]
      exact ⟨rfl, hb03.trans (hb4.mono hb03.size)⟩
end Go.Proofs.YtpnncoinlopndaaGreatDoor

namespace Go.Proofs.YtpnncoinlopndaaGreatDoor
open Go.RowKit Go.Shelf
theorem toList_mk (s : List UInt8) : (⟨s.toArray⟩ : ByteArray).toList = s := by rw [Lib.toList_data]
theorem valD_one (b : UInt8) : valD [b] = b.toNat - 48 := by simp [valD]
theorem valD_cons_ (b : UInt8) (l : List UInt8) : valD (b :: l) = (b.toNat - 48) * 10 ^ l.length + valD l := by
  rw [show b :: l = [b] ++ l from rfl, valD_append, valD_one]
theorem valD_short {s t : List UInt8} (hs : s.all isDig = true) (ht : t.all isDig = true) (hz : ∀ b l, t = b :: l → (b == 48) = false) (h : s.length < t.length) : valD s < valD t := by
  cases t with
  | nil => simp at h
  | cons b l =>
    have h1 := valD_lt hs
    have hb : isDig b = true := by simp at ht; exact ht.1
    have h2 := (isDig_iff b).1 hb
    have h3 : b ≠ 48 := by have := hz b l rfl; simpa using this
    have h4 : b.toNat ≠ 48 := fun h => h3 (by rw [← UInt8.toNat_inj]; exact h)
    have h5 : 10 ^ s.length ≤ 10 ^ l.length := Nat.pow_le_pow_right (by omega) (by simp at h; omega)
    rw [valD_cons_]
    have h6 : 1 * 10 ^ l.length ≤ (b.toNat - 48) * 10 ^ l.length := Nat.mul_le_mul_right _ (by omega)
    omega
theorem dig_step {P x y b c : Nat} (hx : x < P) (hy : y < P) : (b * P + x < c * P + y ↔ b < c ∨ (b = c ∧ x < y)) := by
  rcases Nat.lt_trichotomy b c with h | h | h
  · have : (b + 1) * P ≤ c * P := Nat.mul_le_mul_right _ h
    rw [Nat.add_mul] at this
    constructor
    · intro _; exact .inl h
    · intro _; omega
  · subst h; constructor
    · intro h2; exact .inr ⟨rfl, by omega⟩
    · rintro (h2 | h2) <;> omega
  · have : (c + 1) * P ≤ b * P := Nat.mul_le_mul_right _ h
    rw [Nat.add_mul] at this
    constructor
    · intro h2; omega
    · rintro (h2 | h2) <;> omega
theorem bytesLess_dig : ∀ (s t : List UInt8), s.all isDig = true → t.all isDig = true → s.length = t.length → Op.bytesLess s t = decide (valD s < valD t)
  | [], [], _, _, _ => by simp [Op.bytesLess]
  | _ :: _, [], _, _, h => by simp at h
  | [], _ :: _, _, _, h => by simp at h
  | b :: s, c :: t, hs, ht, h => by
    simp only [List.all_cons, Bool.and_eq_true] at hs ht
    have hl : s.length = t.length := by simpa using h
    have ih := bytesLess_dig s t hs.2 ht.2 hl
    rw [Op.bytesLess, ih, valD_cons_, valD_cons_, hl]
    have h1 := (isDig_iff b).1 hs.1
    have h2 := (isDig_iff c).1 ht.1
    have h3 := valD_lt hs.2
    have h4 := valD_lt ht.2
    rw [hl] at h3
    rw [Bool.eq_iff_iff]
    simp only [Bool.or_eq_true, Bool.and_eq_true, decide_eq_true_eq, beq_iff_eq]
    rw [dig_step h3 h4, UInt8.lt_iff_toNat_lt, ← UInt8.toNat_inj]
    omega
theorem dig_same {P x y b c : Nat} (hx : x < P) (hy : y < P) (h : b * P + x = c * P + y) : b = c ∧ x = y := by
  have h1 := dig_step (b := b) (c := c) hx hy
  have h2 := dig_step (b := c) (c := b) hy hx
  omega
theorem valD_inj : ∀ (s t : List UInt8), s.all isDig = true → t.all isDig = true → s.length = t.length → valD s = valD t → s = t
  | [], [], _, _, _, _ => rfl
  | _ :: _, [], _, _, h, _ => by simp at h
  | [], _ :: _, _, _, h, _ => by simp at h
  | b :: s, c :: t, hs, ht, h, hv => by
    simp only [List.all_cons, Bool.and_eq_true] at hs ht
    have hl : s.length = t.length := by simpa using h
    rw [valD_cons_, valD_cons_, hl] at hv
    have h1 := (isDig_iff b).1 hs.1
    have h2 := (isDig_iff c).1 ht.1
    have h3 := valD_lt hs.2
    have h4 := valD_lt ht.2
    rw [hl] at h3
    obtain ⟨e1, e2⟩ := dig_same h3 h4 hv
    have : b = c := by rw [← UInt8.toNat_inj]; omega
    rw [this, valD_inj s t hs.2 ht.2 hl e2]
set_option maxRecDepth 20000 in
set_option maxHeartbeats 1000000 in
theorem rCompare_any (a b : List UInt8) (w : World) (ha : a.length ≤ 100000000) (hb : b.length ≤ 100000000) : Calls Tryz.prog 62 #[S a, S b] w fun e w' => e = .returned (.int .i64 (sgnI (val a - val b))) ∧ w = w' := by
  have HDa := Lib.hid (rDigits_any a w (by omega))
  have HDb := Lib.hid (rDigits_any b w (by omega))
  have hla := digL_len a; have hlb := digL_len b
  have HS := Lib.hid (fun (r : Int) => cmp_sv (r := r) (sv_val a).symm (sv_val b).symm (sv_neg a) (sv_neg b))
  obtain ⟨hda, hza, _⟩ := digL_ok a
  obtain ⟨hdb, hzb, _⟩ := digL_ok b
  have HLT := Lib.hid (fun h => valD_short hda hdb hzb h)
  have HGT := Lib.hid (fun h => valD_short hdb hda hza h)
  have HBL := Lib.hid (bytesLess_dig _ _ hda hdb)
  have HIN := Lib.hid (valD_inj _ _ hda hdb)
  have HIN2 := Lib.hid (show (digL a).1 = (digL b).1 → valD (digL a).1 = valD (digL b).1 from fun h => by rw [h])
  clear hda hza hdb hzb
  generalize sgnI (val a - val b) = res at *
  generalize (digL a).2 = na at *
  generalize (digL b).2 = nb at *
  generalize (digL a).1 = s at *
  generalize (digL b).1 = t at *
  generalize valD s = u at *
  generalize valD t = v at *
  have hsa : (⟨s.toArray⟩ : ByteArray).size = s.length := str_size s
  have hsb : (⟨t.toArray⟩ : ByteArray).size = t.length := str_size t
  unfold S at *
  have hl1 : s.length ≤ 100000000 := by omega
  have hl2 : t.length ≤ 100000000 := by omega
  clear ha hb hla hlb
  go_enter Tryz.func62, Tryz.ntmps62
  go_wp2_with fail
  refine HDa.out.mono ?_
  rintro e w1 ⟨rfl, rfl⟩
  go_wp2_with fail
  refine HDb.out.mono ?_
  rintro e w1 ⟨rfl, rfl⟩
  clear HDa HDb
  rcases Nat.lt_trichotomy s.length t.length with hl | hl | hl
  · have HV := Lib.hid (HLT.out hl)
    have HC := Lib.hid (HS.out (-1) ⟨fun _ => HV.out, fun _ => by omega⟩ ⟨fun h => by omega, fun h => by have := HV.out; omega⟩)
    clear HS HLT HGT HBL HIN HIN2 HV
    obtain ⟨k1, k2, k3, k4⟩ := HC.out
    clear HC
    have HRES := Lib.hid (show res = (if na then (if nb then 1 else -1) else (if nb then 1 else -1)) by cases na <;> cases nb <;> first | (rw [k1 ⟨rfl, rfl⟩]; rfl) | (rw [k2 ⟨rfl, rfl⟩]; rfl) | (rw [k3 ⟨rfl, rfl⟩]; rfl) | (rw [k4 ⟨rfl, rfl⟩]; rfl))
    clear k1 k2 k3 k4
    cases na <;> cases nb
    all_goals
      go_wp2_with fail
      first | go_ret | skip
      rw [HRES.out]
      exact ⟨rfl, rfl⟩
  · have HSA := Lib.hid (toList_mk s); have HSB := Lib.hid (toList_mk t)
    have HB := Lib.hid (HBL.out hl)
    rcases Nat.lt_trichotomy u v with hv | hv | hv
    · have HV := Lib.hid hv
      have HC := Lib.hid (HS.out (-1) ⟨fun _ => HV.out, fun _ => by omega⟩ ⟨fun h => by omega, fun h => by have := HV.out; omega⟩)
      have hlt : Op.bytesLess s t = true := by rw [HB.out]; simpa using hv
      have hlt2 : Op.bytesLess (⟨s.toArray⟩ : ByteArray).toList (⟨t.toArray⟩ : ByteArray).toList = true := by rw [HSA.out, HSB.out]; exact hlt
      clear HB HSA HSB hv
      clear HS HLT HGT HBL HIN HIN2 HV
      obtain ⟨k1, k2, k3, k4⟩ := HC.out
      clear HC
      have HRES := Lib.hid (show res = (if na then (if nb then 1 else -1) else (if nb then 1 else -1)) by cases na <;> cases nb <;> first | (rw [k1 ⟨rfl, rfl⟩]; rfl) | (rw [k2 ⟨rfl, rfl⟩]; rfl) | (rw [k3 ⟨rfl, rfl⟩]; rfl) | (rw [k4 ⟨rfl, rfl⟩]; rfl))
      clear k1 k2 k3 k4
      cases na <;> cases nb
      all_goals
        go_wp2_with fail
        first | go_ret | skip
        rw [HRES.out]
        exact ⟨rfl, rfl⟩
    · have HV := Lib.hid hv
      have HC := Lib.hid (HS.out 0 ⟨fun _ => by omega, fun _ => by omega⟩ ⟨fun h => by omega, fun h => by have := HV.out; omega⟩)
      have hst := HIN.out hl hv
      have hlt : Op.bytesLess s t = false := by rw [HB.out]; simp; omega
      have hlt2 : Op.bytesLess (⟨s.toArray⟩ : ByteArray).toList (⟨t.toArray⟩ : ByteArray).toList = false := by rw [HSA.out, HSB.out]; exact hlt
      subst hst
      clear HB HSA HSB hv
      clear HS HLT HGT HBL HIN HIN2 HV
      obtain ⟨k1, k2, k3, k4⟩ := HC.out
      clear HC
      have HRES := Lib.hid (show res = (if na then (if nb then 0 else -1) else (if nb then 1 else 0)) by cases na <;> cases nb <;> first | (rw [k1 ⟨rfl, rfl⟩]; rfl) | (rw [k2 ⟨rfl, rfl⟩]; rfl) | (rw [k3 ⟨rfl, rfl⟩]; rfl) | (rw [k4 ⟨rfl, rfl⟩]; rfl))
      clear k1 k2 k3 k4
      cases na <;> cases nb
      all_goals
        go_wp2_with fail
        first | go_ret | skip
        rw [HRES.out]
        exact ⟨rfl, rfl⟩
    · have HV := Lib.hid hv
      have HC := Lib.hid (HS.out 1 ⟨fun _ => by omega, fun _ => by omega⟩ ⟨fun h => HV.out, fun h => by omega⟩)
      have hlt : Op.bytesLess s t = false := by rw [HB.out]; simp; omega
      have hlt2 : Op.bytesLess (⟨s.toArray⟩ : ByteArray).toList (⟨t.toArray⟩ : ByteArray).toList = false := by rw [HSA.out, HSB.out]; exact hlt
      have hne : (s == t) = false := by
        rw [Bool.eq_false_iff]; intro h
        have := HIN2.out (by simpa using h)
        omega
      have hne2 : ((⟨s.toArray⟩ : ByteArray).toList == (⟨t.toArray⟩ : ByteArray).toList) = false := by rw [HSA.out, HSB.out]; exact hne
      clear HB HSA HSB hv
      clear HS HLT HGT HBL HIN HIN2 HV
      obtain ⟨k1, k2, k3, k4⟩ := HC.out
      clear HC
      have HRES := Lib.hid (show res = (if na then (if nb then -1 else -1) else (if nb then 1 else 1)) by cases na <;> cases nb <;> first | (rw [k1 ⟨rfl, rfl⟩]; rfl) | (rw [k2 ⟨rfl, rfl⟩]; rfl) | (rw [k3 ⟨rfl, rfl⟩]; rfl) | (rw [k4 ⟨rfl, rfl⟩]; rfl))
      clear k1 k2 k3 k4
      cases na <;> cases nb
      all_goals
        go_wp2_with fail
        first | go_ret | skip
        rw [HRES.out]
        exact ⟨rfl, rfl⟩
  · have HV := Lib.hid (HGT.out hl)
    have HC := Lib.hid (HS.out 1 ⟨fun h => by omega, fun h => by have := HV.out; omega⟩ ⟨fun _ => HV.out, fun _ => by omega⟩)
    clear HS HLT HGT HBL HIN HIN2 HV
    obtain ⟨k1, k2, k3, k4⟩ := HC.out
    clear HC
    have HRES := Lib.hid (show res = (if na then (if nb then -1 else -1) else (if nb then 1 else 1)) by cases na <;> cases nb <;> first | (rw [k1 ⟨rfl, rfl⟩]; rfl) | (rw [k2 ⟨rfl, rfl⟩]; rfl) | (rw [k3 ⟨rfl, rfl⟩]; rfl) | (rw [k4 ⟨rfl, rfl⟩]; rfl))
    clear k1 k2 k3 k4
    cases na <;> cases nb
    all_goals
      go_wp2_with fail
      first | go_ret | skip
      rw [HRES.out]
      exact ⟨rfl, rfl⟩
end Go.Proofs.YtpnncoinlopndaaGreatDoor

namespace Go.Proofs.YtpnncoinlopndaaGreatDoor
open Go.RowKit Go.Shelf
theorem short_nz (b : List UInt8) (h : (shortL b).2 = false) : val b ≠ 0 := by
  intro h0
  have h1 := (valD_zero b).2 h0
  obtain ⟨hd, hz, _⟩ := digL_ok b
  have h2 : 17 < (digL b).1.length := by
    unfold shortL at h
    split at h
    · simp at h
    · omega
  have := valD_short (s := []) rfl hd hz (by simp; omega)
  omega
theorem tdm_bounds (m n : Int) (hn : n ≠ 0) : (m.tdiv n).natAbs ≤ m.natAbs ∧ (m.tmod n).natAbs < n.natAbs ∧ n * m.tdiv n + m.tmod n = m ∧ (0 ≤ m → 0 ≤ m.tmod n) ∧ (m ≤ 0 → m.tmod n ≤ 0) := by
  refine ⟨?_, ?_, ?_, ?_, ?_⟩
  · rw [Int.natAbs_tdiv]; exact Nat.div_le_self _ _
  · rw [Int.natAbs_tmod]; exact Nat.mod_lt _ (by omega)
  · exact Int.mul_tdiv_add_tmod m n
  · exact fun h => Int.tmod_nonneg n h
  · intro h
    have := Int.tmod_nonneg n (show 0 ≤ -m by omega)
    rw [Int.neg_tmod] at this
    omega
theorem fdiv_of {a b x y : Int} (hb : b ≠ 0) (he : y + b * x = a) (h : (0 ≤ y ∧ y < b) ∨ (b < y ∧ y ≤ 0)) : a.fdiv b = x ∧ a.fmod b = y := by
  rcases h with ⟨h1, h2⟩ | ⟨h1, h2⟩
  · exact (Int.fdiv_fmod_unique (by omega)).2 ⟨he, h1, h2⟩
  · exact (Int.fdiv_fmod_unique' (by omega)).2 ⟨he, h1, h2⟩
theorem floor_mend (m n : Int) (hn : n ≠ 0) :
    ((m.tmod n = 0 ∨ (decide (m.tmod n < 0) = decide (n < 0))) → m.fdiv n = m.tdiv n ∧ m.fmod n = m.tmod n) ∧
    (m.tmod n ≠ 0 ∧ decide (m.tmod n < 0) ≠ decide (n < 0) → m.fdiv n = m.tdiv n - 1 ∧ m.fmod n = m.tmod n + n) := by
  obtain ⟨_, h2, h3, _, _⟩ := tdm_bounds m n hn
  constructor
  · intro h
    refine fdiv_of hn (by omega) ?_
    rcases h with h | h
    · omega
    · by_cases hr : m.tmod n < 0
      · have : n < 0 := by rw [decide_eq_true hr] at h; simpa using h.symm
        omega
      · have : ¬ n < 0 := by rw [decide_eq_false hr] at h; simpa using h.symm
        omega
  · rintro ⟨h0, h⟩
    refine fdiv_of hn (by rw [Int.mul_sub, Int.mul_one]; omega) ?_
    by_cases hr : m.tmod n < 0
    · have : ¬ n < 0 := fun hh => h (by rw [decide_eq_true hr, decide_eq_true hh])
      omega
    · have : n < 0 := by
        rcases Int.lt_or_le n 0 with hh | hh
        · exact hh
        · exact absurd (by rw [decide_eq_false hr, decide_eq_false (by omega)]) h
      omega
end Go.Proofs.YtpnncoinlopndaaGreatDoor

namespace Go.Proofs.YtpnncoinlopndaaGreatDoor
open Go.RowKit Go.Shelf
set_option maxRecDepth 20000 in
set_option maxHeartbeats 1000000 in
theorem rDiv_zero (a b : List UInt8) (w : World) (ha : a.length ≤ 100000) (hb : b.length ≤ 100000) (h0 : val b = 0) : Calls Tryz.prog 116 #[S a, S b] w (Div3Post (val a) (val b) w) := by
  have HSa := Lib.hid (rShort_any a w (by omega))
  have HSb := Lib.hid (rShort_any b w (by omega))
  have HPO := Lib.hid (show Div3Post (val a) (val b) w = fun e w' => e = .returned (if val b = 0 then .tuple #[S [], S [], .int .i64 10] else .tuple #[S (txtL ((val a).fdiv (val b))), S (txtL ((val a).fmod (val b))), .int .i64 0]) ∧ Below w.heap.size w w' from rfl)
  rw [if_pos h0] at HPO
  have hkb : (shortL b).2 = true := by
    cases h : (shortL b).2 with
    | true => rfl
    | false => exact absurd h0 (short_nz b h)
  have hn : (shortL b).1 = 0 := by rw [(short_facts b).2.2 hkb, h0]
  rw [hkb, hn] at HSb
  generalize Div3Post (val a) (val b) w = post at *
  generalize (shortL a).1 = m at *
  generalize (shortL a).2 = ka at *
  clear ha hb h0 hkb hn
  unfold S at *
  go_enter Tryz.func116, Tryz.ntmps116
  go_wp2_with fail
  refine HSa.out.mono ?_
  rintro e w1 ⟨rfl, rfl⟩
  go_wp2_with fail
  refine HSb.out.mono ?_
  rintro e w1 ⟨rfl, rfl⟩
  go_wp2_with fail
  go_ret3
  rw [HPO.out]
  exact ⟨rfl, Below.refl _ _⟩
theorem nat_abs_lt {q m : Int} (h : q.natAbs ≤ m.natAbs) (h1 : -100000000000000000 < m) (h2 : m < 100000000000000000) : -100000000000000000 < q ∧ q < 100000000000000000 := by omega
set_option maxRecDepth 20000 in
set_option maxHeartbeats 1000000 in
theorem rDiv_short (a b : List UInt8) (w : World) (ha : a.length ≤ 100000) (hb : b.length ≤ 100000) (h0 : val b ≠ 0) (hka : (shortL a).2 = true) (hkb : (shortL b).2 = true) : Calls Tryz.prog 116 #[S a, S b] w (Div3Post (val a) (val b) w) := by
  have HSa := Lib.hid (rShort_any a w (by omega))
  have HSb := Lib.hid (rShort_any b w (by omega))
  have HPO := Lib.hid (show Div3Post (val a) (val b) w = fun e w' => e = .returned (if val b = 0 then .tuple #[S [], S [], .int .i64 10] else .tuple #[S (txtL ((val a).fdiv (val b))), S (txtL ((val a).fmod (val b))), .int .i64 0]) ∧ Below w.heap.size w w' from rfl)
  rw [if_neg h0] at HPO
  obtain ⟨la, ua, ea⟩ := short_facts a
  obtain ⟨lb, ub, eb⟩ := short_facts b
  rw [ea hka, hka] at HSa
  rw [eb hkb, hkb] at HSb
  rw [ea hka] at la ua
  rw [eb hkb] at lb ub
  generalize Div3Post (val a) (val b) w = post at *
  clear ea eb ha hb hka hkb
  generalize val a = m at *
  generalize val b = n at *
  obtain ⟨t1, t2, t3, t4, t5⟩ := tdm_bounds m n h0
  clear t3 t4 t5
  have HFM := Lib.hid (floor_mend m n h0)
  obtain ⟨q, hq⟩ : ∃ q, m.tdiv n = q := ⟨_, rfl⟩
  obtain ⟨r, hr⟩ : ∃ r, m.tmod n = r := ⟨_, rfl⟩
  rw [hq] at t1 HFM
  rw [hr] at t2 HFM
  obtain ⟨q1, q2⟩ := nat_abs_lt t1 la ua
  obtain ⟨r1, r2⟩ := nat_abs_lt (Nat.le_of_lt t2) lb ub
  have hn0 : (n == 0) = false := by simpa using h0
  have HOF := Lib.hid (fun (W : World) (k : Int) h1 h2 => rOf_any k h1 h2 W)
  unfold S at *
  clear t1 t2
  go_enter Tryz.func116, Tryz.ntmps116
  go_wp2_with fail
  refine HSa.out.mono ?_
  rintro e w1 ⟨rfl, rfl⟩
  go_wp2_with fail
  refine HSb.out.mono ?_
  rintro e w1 ⟨rfl, rfl⟩
  go_upto_region 6 with (fail)
  go_region
  have HB := Lib.hid (show Below w.heap.size w w.drew from (Below.refl _ _).drew)
  generalize w.drew = W at *
  clear hq hr HSa HSb hn0
  by_cases hr0 : r = 0
  · obtain ⟨e1, e2⟩ := HFM.out.1 (.inl hr0)
    subst hr0
    have HE1 := Lib.hid e1; have HE2 := Lib.hid e2; clear e1 e2 HFM
    have HOQ := Lib.hid (HOF.out W q (by omega) (by omega)); have HOR := Lib.hid (HOF.out W 0 (by omega) (by omega))
    clear HOF
    go_wp2_with fail
    refine HOQ.out.mono ?_
    rintro e w1 ⟨rfl, rfl⟩
    go_wp2_with fail
    refine HOR.out.mono ?_
    rintro e w1 ⟨rfl, rfl⟩
    go_wp2_with fail
    go_ret3
    rw [HPO.out, HE1.out, HE2.out]
    exact ⟨rfl, HB.out⟩
  have hrb : (r == 0) = false := by simpa using hr0
  rcases Int.lt_or_le r 0 with h1 | h1 <;> rcases Int.lt_or_le n 0 with h2 | h2
  · obtain ⟨e1, e2⟩ := HFM.out.1 (.inr (by rw [decide_eq_true h1, decide_eq_true h2]))
    have HE1 := Lib.hid e1; have HE2 := Lib.hid e2; clear e1 e2 HFM
    have HOQ := Lib.hid (HOF.out W q (by omega) (by omega)); have HOR := Lib.hid (HOF.out W r (by omega) (by omega))
    clear HOF
    go_wp2_with fail
    refine HOQ.out.mono ?_
    rintro e w1 ⟨rfl, rfl⟩
    go_wp2_with fail
    refine HOR.out.mono ?_
    rintro e w1 ⟨rfl, rfl⟩
    go_wp2_with fail
    go_ret3
    rw [HPO.out, HE1.out, HE2.out]
    exact ⟨rfl, HB.out⟩
  · obtain ⟨e1, e2⟩ := HFM.out.2 ⟨hr0, by rw [decide_eq_true h1, decide_eq_false (by omega)]; simp⟩
    have HE1 := Lib.hid e1; have HE2 := Lib.hid e2; clear e1 e2 HFM
    have HOQ := Lib.hid (HOF.out W (q - 1) (by omega) (by omega)); have HOR := Lib.hid (HOF.out W (r + n) (by omega) (by omega))
    clear HOF
    have g2 : ¬ n < 0 := by omega
    go_wp2_with fail
    refine HOQ.out.mono ?_
    rintro e w1 ⟨rfl, rfl⟩
    go_wp2_with fail
    refine HOR.out.mono ?_
    rintro e w1 ⟨rfl, rfl⟩
    go_wp2_with fail
    go_ret3
    rw [HPO.out, HE1.out, HE2.out]
    exact ⟨rfl, HB.out⟩
  · obtain ⟨e1, e2⟩ := HFM.out.2 ⟨hr0, by rw [decide_eq_false (by omega), decide_eq_true h2]; simp⟩
    have HE1 := Lib.hid e1; have HE2 := Lib.hid e2; clear e1 e2 HFM
    have HOQ := Lib.hid (HOF.out W (q - 1) (by omega) (by omega)); have HOR := Lib.hid (HOF.out W (r + n) (by omega) (by omega))
    clear HOF
    have g1 : ¬ r < 0 := by omega
    go_wp2_with fail
    refine HOQ.out.mono ?_
    rintro e w1 ⟨rfl, rfl⟩
    go_wp2_with fail
    refine HOR.out.mono ?_
    rintro e w1 ⟨rfl, rfl⟩
    go_wp2_with fail
    go_ret3
    rw [HPO.out, HE1.out, HE2.out]
    exact ⟨rfl, HB.out⟩
  · obtain ⟨e1, e2⟩ := HFM.out.1 (.inr (by rw [decide_eq_false (by omega), decide_eq_false (by omega)]))
    have HE1 := Lib.hid e1; have HE2 := Lib.hid e2; clear e1 e2 HFM
    have HOQ := Lib.hid (HOF.out W q (by omega) (by omega)); have HOR := Lib.hid (HOF.out W r (by omega) (by omega))
    clear HOF
    have g1 : ¬ r < 0 := by omega
    have g2 : ¬ n < 0 := by omega
    go_wp2_with fail
    refine HOQ.out.mono ?_
    rintro e w1 ⟨rfl, rfl⟩
    go_wp2_with fail
    refine HOR.out.mono ?_
    rintro e w1 ⟨rfl, rfl⟩
    go_wp2_with fail
    go_ret3
    rw [HPO.out, HE1.out, HE2.out]
    exact ⟨rfl, HB.out⟩
end Go.Proofs.YtpnncoinlopndaaGreatDoor

