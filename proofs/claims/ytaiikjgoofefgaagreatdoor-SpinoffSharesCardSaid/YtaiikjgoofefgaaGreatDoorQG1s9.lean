/- Merged texts: R11, R12. -/
import Derived.Test.YtaiikjgoofefgaaGreatDoorR10qG1s
import Derived.Test.YtaiikjgoofefgaaGreatDoorQG1s3
/- Contract of the reference's Add. -/
namespace Go.Proofs.YtaiikjgoofefgaaGreatDoor
open Go.RowKit Go.Shelf

theorem short_facts (a : List UInt8) : -100000000000000000 < (shortL a).1 ∧ (shortL a).1 < 100000000000000000 ∧ ((shortL a).2 = true → (shortL a).1 = val a) := by
  unfold shortL
  split
  · rename_i h
    have h1 := valD_lt (digL_ok a).1
    have h2 : 10 ^ (digL a).1.length ≤ 10 ^ 17 := Nat.pow_le_pow_right (by omega) h
    have h3 := sv_val a
    refine ⟨?_, ?_, fun _ => rfl⟩ <;> (show _ < _; simp only; rw [← h3]; unfold sv; split <;> omega)
  · exact ⟨by decide, by decide, fun h => by simp at h⟩
set_option maxRecDepth 20000 in
set_option maxHeartbeats 1000000 in
theorem rAdd_any (a b : List UInt8) (w : World) (ha : a.length ≤ 100000) (hb : b.length ≤ 100000) : Calls Tryz.prog 40 #[S a, S b] w (StrPost (txtL (val a + val b)) w) := by
  have HSa := Lib.hid (rShort_any a w (by omega))
  have HSb := Lib.hid (rShort_any b w (by omega))
  have HRa := Lib.hid (rRead_any a w (by omega))
  have HRb := Lib.hid (fun W => rRead_any b W (by omega))
  obtain ⟨K, hK⟩ : ∃ K : Nat, K = 100000 := ⟨_, rfl⟩
  have HVA := Lib.hid (valD_small (show a.length ≤ K by omega))
  have HVB := Lib.hid (valD_small (show b.length ≤ K by omega))
  have HK := Lib.hid hK; clear hK
  have HS := Lib.hid (show sv (digL a).2 (valD (digL a).1) + sv (digL b).2 (valD (digL b).1) = val a + val b by rw [sv_val, sv_val])
  have HPO := Lib.hid (show StrPost (txtL (val a + val b)) w = fun e w' => e = .returned (S (txtL (val a + val b))) ∧ Below w.heap.size w w' from rfl)
  obtain ⟨la, ua, ea⟩ := short_facts a
  obtain ⟨lb, ub, eb⟩ := short_facts b
  have HEA := Lib.hid ea; have HEB := Lib.hid eb; clear ea eb
  unfold RReadPost at HRa HRb
  generalize StrPost (txtL (val a + val b)) w = post at *
  generalize (digL a).2 = na at *
  generalize (digL b).2 = nb at *
  generalize valD (digL a).1 = u at *
  generalize valD (digL b).1 = v at *
  generalize (shortL a).1 = m at *
  generalize (shortL b).1 = n at *
  generalize (shortL a).2 = ka at *
  generalize (shortL b).2 = kb at *
  clear ha hb
  unfold S at *
  go_enter Tryz.func40, Tryz.ntmps40
  go_wp2_with fail
  refine HSa.out.mono ?_
  rintro e w1 ⟨rfl, rfl⟩
  go_wp2_with fail
  refine HSb.out.mono ?_
  rintro e w1 ⟨rfl, rfl⟩
  by_cases hk : ka = true ∧ kb = true
  · obtain ⟨rfl, rfl⟩ := hk
    have HOF := Lib.hid (rOf_any (m + n) (by omega) (by omega) w)
    rw [HEA.out rfl, HEB.out rfl] at HOF
    have hmv := HEA.out rfl; have hnv := HEB.out rfl
    have HM := Lib.hid hmv; have HN := Lib.hid hnv
    clear hmv hnv
    rw [← HM.out, ← HN.out] at HOF
    rw [← HM.out, ← HN.out] at HPO
    unfold S at HOF
    clear HM HN HRa HRb HS HVA HVB HEA HEB
    go_wp2_with fail
    refine HOF.out.mono ?_
    rintro e w1 ⟨rfl, rfl⟩
    go_wp2_with fail
    rw [HPO.out]
    exact ⟨rfl, Below.refl _ _⟩
  · have hkk : (if ka = true then kb else false) = false := by cases ka <;> cases kb <;> simp_all
    clear HEA HEB HSa HSb la ua lb ub
    have hcase : ka = false ∨ (ka = true ∧ kb = false) := by cases ka <;> cases kb <;> simp_all
    clear hkk hk
    rcases hcase with rfl | ⟨rfl, rfl⟩
    all_goals
      go_wp2_with fail
      refine HRa.out.mono ?_
      rintro e w1 ⟨A1, n1, c1, xs, rfl, ho1, hc1, mg1, hb1⟩
      have HO1 := Lib.hid ho1; have HM1 := Lib.hid mg1; clear ho1 mg1 HRa
      go_wp2_with fail
      refine (HRb.out _).mono ?_
      rintro e w2 ⟨A2, n2, c2, ys, rfl, ho2, hc2, mg2, hb2⟩
      have HX1 := Lib.hid (HO1.out.here hb2)
      have HX2 := Lib.hid ho2; have HM2 := Lib.hid mg2; clear ho2 mg2 HRb
      have HL1 := Lib.hid (show n1 ≤ K by rw [HX1.out.1]; exact HM1.out.len HVA.out)
      have HL2 := Lib.hid (show n2 ≤ K by rw [HX2.out.1]; exact HM2.out.len HVB.out)
      have hb02 := hb1.trans (hb2.mono hb1.size)
      go_wp2_with fail
      refine (rAddN_any na nb A1 A2 n1 n2 c1 c2 xs ys u v w2 HX1.out HX2.out HM1.out HM2.out (by have := HL1.out; have := HK.out; omega) (by have := HL2.out; have := HK.out; omega)).mono ?_
      rintro e w3 ⟨ng, A3, n3, c3, zs, r, rfl, ho3, hc3, mg3, hsv, hb3⟩
      have HX3 := Lib.hid ho3
      have HL3 := Lib.hid (show n3 ≤ K + 1 by rw [HX3.out.1]; exact mg3.len (sv_le hsv HVA.out HVB.out))
      have HM3 := Lib.hid mg3; have HSV := Lib.hid hsv
      have hb03 := hb02.trans (hb3.mono hb02.size)
      clear ho3 mg3 hsv
      have HTX := Lib.hid (rWrite_any ng A3 n3 c3 zs w3 HX3.out HM3.out.gs (by have := HL3.out; have := HK.out; omega))
      rw [HM3.out.val, numT_sv, HSV.out, HS.out] at HTX
      unfold S at HTX
      go_wp2_with fail
      refine HTX.out.mono ?_
      rintro e w4 ⟨rfl, hb4⟩
      go_wp2_with fail
      rw [HPO.out]
      exact ⟨rfl, hb03.trans (hb4.mono hb03.size)⟩
end Go.Proofs.YtaiikjgoofefgaaGreatDoor
/- Contract of the reference's Mul. -/
namespace Go.Proofs.YtaiikjgoofefgaaGreatDoor
open Go.RowKit Go.Shelf

theorem small_mul {m n : Int} (h1 : -1000000000 < m) (h2 : m < 1000000000) (h3 : -1000000000 < n) (h4 : n < 1000000000) : -1000000000000000000 ≤ m * n ∧ m * n ≤ 1000000000000000000 := by
  have h : (m * n).natAbs ≤ 1000000000 * 1000000000 := by
    rw [Int.natAbs_mul]
    exact Nat.mul_le_mul (by omega) (by omega)
  omega
set_option maxRecDepth 20000 in
set_option maxHeartbeats 2000000 in
theorem rMul_any (a b : List UInt8) (w : World) (ha : a.length ≤ 100000) (hb : b.length ≤ 100000) : Calls Tryz.prog 38 #[S a, S b] w (StrPost (txtL (val a * val b)) w) := by
  have HSa := Lib.hid (rShort_any a w (by omega))
  have HSb := Lib.hid (rShort_any b w (by omega))
  have HRa := Lib.hid (rRead_any a w (by omega))
  have HRb := Lib.hid (fun W => rRead_any b W (by omega))
  obtain ⟨K, hK⟩ : ∃ K : Nat, K = 100000 := ⟨_, rfl⟩
  have hva := valD_small (show a.length ≤ K by omega)
  have hvb := valD_small (show b.length ≤ K by omega)
  have HK := Lib.hid hK; clear hK
  have HS := Lib.hid (show sv ((digL a).2 != (digL b).2) (valD (digL a).1 * valD (digL b).1) = val a * val b by rw [sv_mul, sv_val, sv_val])
  have HPO := Lib.hid (show StrPost (txtL (val a * val b)) w = fun e w' => e = .returned (S (txtL (val a * val b))) ∧ Below w.heap.size w w' from rfl)
  obtain ⟨la, ua, ea⟩ := short_facts a
  obtain ⟨lb, ub, eb⟩ := short_facts b
  have HEA := Lib.hid ea; have HEB := Lib.hid eb; clear ea eb
  unfold RReadPost at HRa HRb
  generalize StrPost (txtL (val a * val b)) w = post at *
  generalize (digL a).2 = na at *
  generalize (digL b).2 = nb at *
  generalize valD (digL a).1 = u at *
  generalize valD (digL b).1 = v at *
  generalize (shortL a).1 = m at *
  generalize (shortL b).1 = n at *
  generalize (shortL a).2 = ka at *
  generalize (shortL b).2 = kb at *
  have HVA := Lib.hid hva; have HVB := Lib.hid hvb
  have HUV := Lib.hid (show u * v < 1000000000 ^ (K + K) by rw [Nat.pow_add]; exact Nat.mul_lt_mul'' hva hvb)
  clear ha hb hva hvb
  unfold S at *
  go_enter Tryz.func38, Tryz.ntmps38
  go_wp2_with fail
  refine HSa.out.mono ?_
  rintro e w1 ⟨rfl, rfl⟩
  go_wp2_with fail
  refine HSb.out.mono ?_
  rintro e w1 ⟨rfl, rfl⟩
  by_cases hk : ka = true ∧ kb = true ∧ m < 1000000000 ∧ m > -1000000000 ∧ n < 1000000000 ∧ n > -1000000000
  · obtain ⟨rfl, rfl, h1, h2, h3, h4⟩ := hk
    obtain ⟨p, hp⟩ : ∃ p, m * n = p := ⟨_, rfl⟩
    have hpb := small_mul h2 h1 h4 h3
    rw [hp] at hpb
    obtain ⟨hp1, hp2⟩ := hpb
    have HOF := Lib.hid (rOf_any p (by omega) (by omega) w)
    rw [← HEA.out rfl, ← HEB.out rfl, hp] at HPO
    unfold S at HOF
    clear HRa HRb HS HVA HVB HUV HEA HEB
    have e1 : decide (m < 1000000000) = true := by simpa using h1
    have e2 : decide (m > -1000000000) = true := by simpa using h2
    have e3 : decide (n < 1000000000) = true := by simpa using h3
    have e4 : decide (n > -1000000000) = true := by simpa using h4
    go_wp2_with fail
    refine HOF.out.mono ?_
    rintro e w1 ⟨rfl, rfl⟩
    go_wp2_with fail
    rw [HPO.out]
    exact ⟨rfl, Below.refl _ _⟩
  · have hcase : ka = false ∨ (ka = true ∧ kb = false) ∨ (ka = true ∧ kb = true ∧ ¬ m < 1000000000) ∨ (ka = true ∧ kb = true ∧ m < 1000000000 ∧ ¬ m > -1000000000) ∨ (ka = true ∧ kb = true ∧ m < 1000000000 ∧ m > -1000000000 ∧ ¬ n < 1000000000) ∨ (ka = true ∧ kb = true ∧ m < 1000000000 ∧ m > -1000000000 ∧ n < 1000000000 ∧ ¬ n > -1000000000) := by
      cases ka <;> cases kb <;> simp at hk ⊢ <;> omega
    clear HEA HEB HSa HSb la ua lb ub hk
    rcases hcase with rfl | ⟨rfl, rfl⟩ | ⟨rfl, rfl, h1⟩ | ⟨rfl, rfl, h1, h2⟩ | ⟨rfl, rfl, h1, h2, h3⟩ | ⟨rfl, rfl, h1, h2, h3, h4⟩
    all_goals
      go_wp2_with fail
      refine HRa.out.mono ?_
      rintro e w1 ⟨A1, n1, c1, xs, rfl, ho1, hc1, mg1, hb1⟩
      have HO1 := Lib.hid ho1; have HM1 := Lib.hid mg1; clear ho1 mg1 HRa
      go_wp2_with fail
      refine (HRb.out _).mono ?_
      rintro e w2 ⟨A2, n2, c2, ys, rfl, ho2, hc2, mg2, hb2⟩
      have HX1 := Lib.hid (HO1.out.here hb2)
      have HX2 := Lib.hid ho2; have HM2 := Lib.hid mg2; clear ho2 mg2 HRb
      have HL1 := Lib.hid (show n1 ≤ K by rw [HX1.out.1]; exact HM1.out.len HVA.out)
      have HL2 := Lib.hid (show n2 ≤ K by rw [HX2.out.1]; exact HM2.out.len HVB.out)
      have hb02 := hb1.trans (hb2.mono hb1.size)
      go_wp2_with fail
      have hN1 : RNumB ((w2.alloc (.cells #[.bool na, .slice A1 n1 c1] 69)).alloc (.cells #[.bool nb, .slice A2 n2 c2] 69)) w2.heap.size na A1 n1 c1 := (RNumB.new w2 na A1 n1 c1).alloc _
      have hN2 : RNumB ((w2.alloc (.cells #[.bool na, .slice A1 n1 c1] 69)).alloc (.cells #[.bool nb, .slice A2 n2 c2] 69)) (w2.heap.size + 1) nb A2 n2 c2 := by
        have := RNumB.new (w2.alloc (.cells #[.bool na, .slice A1 n1 c1] 69)) nb A2 n2 c2
        simpa using this
      have hbA : Below w2.heap.size w2 ((w2.alloc (.cells #[.bool na, .slice A1 n1 c1] 69)).alloc (.cells #[.bool nb, .slice A2 n2 c2] 69)) := ((Below.refl _ _).alloc (Nat.le_refl _) _).alloc (by simp) _
      have HX1' := Lib.hid (HX1.out.here hbA); have HX2' := Lib.hid (HX2.out.here hbA)
      have hb0A := hb02.trans (hbA.mono hb02.size)
      obtain ⟨x0, x1⟩ := hN1.cells
      obtain ⟨y0, y1⟩ := hN2.cells
      have HN1 := Lib.hid hN1; have HN2 := Lib.hid hN2
      clear hN1 hN2 hbA HX1 HX2 HO1
      generalize (w2.alloc (.cells #[.bool na, .slice A1 n1 c1] 69)).alloc (.cells #[.bool nb, .slice A2 n2 c2] 69) = W at *
      have HTM := Lib.hid (rTimes_any A1 A2 n1 n2 c1 c2 xs ys u v W.drew HX1'.out.drew HX2'.out.drew HM1.out HM2.out (by have := HL1.out; have := HK.out; omega) (by have := HL2.out; have := HK.out; omega))
      go_region_held3 (fun w' => w'.cell? ⟨w2.heap.size, 0, none⟩ = some (.bool na) ∧ w'.cell? ⟨w2.heap.size, 1, none⟩ = some (.slice A1 n1 c1) ∧ w'.cell? ⟨w2.heap.size + 1, 0, none⟩ = some (.bool nb) ∧ w'.cell? ⟨w2.heap.size + 1, 1, none⟩ = some (.slice A2 n2 c2))
        (first
          | exact ⟨x0, x1, y0, y1⟩
          | exact ⟨(HN1.out.here hbz).cells.1, (HN1.out.here hbz).cells.2, (HN2.out.here hbz).cells.1, (HN2.out.here hbz).cells.2⟩
          | exact ⟨(HN1.out.here hbz4).cells.1, (HN1.out.here hbz4).cells.2, (HN2.out.here hbz4).cells.1, (HN2.out.here hbz4).cells.2⟩)
        (first
        | (go_at_call 63; refine HTM.out.mono ?_; rintro e w3 ⟨A3, n3, c3, zs, rfl, ho3, hc3, mg3, hb3⟩
           have hbz : Below W.heap.size W w3 := (Below.refl _ W).drew.trans hb3
           have HX3 := Lib.hid ho3
           have HL3 := Lib.hid (show n3 ≤ K + K by rw [HX3.out.1]; exact mg3.len HUV.out)
           have hb03 := hb0A.trans (hbz.mono hb0A.size)
           have HTX := Lib.hid (rWrite_any (na != nb) A3 n3 c3 zs w3 HX3.out mg3.gs (by have := HL3.out; have := HK.out; omega))
           rw [mg3.val, numT_sv, HS.out] at HTX
           unfold S at HTX
           clear ho3 mg3 hb3)
        | (go_at_call 62; refine HTX.out.mono ?_; rintro e w4 ⟨rfl, hb4⟩; have hbz4 := hbz.trans (hb4.mono hbz.size)))
    all_goals
      go_wp2_with fail
      rw [HPO.out]
      exact ⟨rfl, hb03.trans (hb4.mono hb03.size)⟩
end Go.Proofs.YtaiikjgoofefgaaGreatDoor
