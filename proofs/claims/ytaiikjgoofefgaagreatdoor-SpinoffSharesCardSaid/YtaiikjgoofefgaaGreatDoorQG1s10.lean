/- Merged texts: R14, R16. -/
import Derived.Test.YtaiikjgoofefgaaGreatDoorR13qG1s
/- The reference's Div: plain laws (short numbers). -/
namespace Go.Proofs.YtaiikjgoofefgaaGreatDoor
open Go.RowKit Go.Shelf

theorem short_nz (b : List UInt8) (h : (shortL b).2 = false) : val b ≠ 0 := by
  intro h0
  have h1 := (valD_zero b).2 h0
  obtain ⟨hd, hz, _⟩ := digL_ok b
  have h2 : 17 < (digL b).1.length := by
    unfold shortL at h
    split at h
    · simp at h
    · omega
  have := valD_short (s := []) rfl hd hz (by simp; omega)
  omega
theorem tdm_bounds (m n : Int) (hn : n ≠ 0) : (m.tdiv n).natAbs ≤ m.natAbs ∧ (m.tmod n).natAbs < n.natAbs ∧ n * m.tdiv n + m.tmod n = m ∧ (0 ≤ m → 0 ≤ m.tmod n) ∧ (m ≤ 0 → m.tmod n ≤ 0) := by
  refine ⟨?_, ?_, ?_, ?_, ?_⟩
  · rw [Int.natAbs_tdiv]; exact Nat.div_le_self _ _
  · rw [Int.natAbs_tmod]; exact Nat.mod_lt _ (by omega)
  · exact Int.mul_tdiv_add_tmod m n
  · exact fun h => Int.tmod_nonneg n h
  · intro h
    have := Int.tmod_nonneg n (show 0 ≤ -m by omega)
    rw [Int.neg_tmod] at this
    omega
theorem fdiv_of {a b x y : Int} (hb : b ≠ 0) (he : y + b * x = a) (h : (0 ≤ y ∧ y < b) ∨ (b < y ∧ y ≤ 0)) : a.fdiv b = x ∧ a.fmod b = y := by
  rcases h with ⟨h1, h2⟩ | ⟨h1, h2⟩
  · exact (Int.fdiv_fmod_unique (by omega)).2 ⟨he, h1, h2⟩
  · exact (Int.fdiv_fmod_unique' (by omega)).2 ⟨he, h1, h2⟩
/-- The truncated quotient and its mending. -/
theorem floor_mend (m n : Int) (hn : n ≠ 0) :
    ((m.tmod n = 0 ∨ (decide (m.tmod n < 0) = decide (n < 0))) → m.fdiv n = m.tdiv n ∧ m.fmod n = m.tmod n) ∧
    (m.tmod n ≠ 0 ∧ decide (m.tmod n < 0) ≠ decide (n < 0) → m.fdiv n = m.tdiv n - 1 ∧ m.fmod n = m.tmod n + n) := by
  obtain ⟨_, h2, h3, _, _⟩ := tdm_bounds m n hn
  constructor
  · intro h
    refine fdiv_of hn (by omega) ?_
    rcases h with h | h
    · omega
    · by_cases hr : m.tmod n < 0
      · have : n < 0 := by rw [decide_eq_true hr] at h; simpa using h.symm
        omega
      · have : ¬ n < 0 := by rw [decide_eq_false hr] at h; simpa using h.symm
        omega
  · rintro ⟨h0, h⟩
    refine fdiv_of hn (by rw [Int.mul_sub, Int.mul_one]; omega) ?_
    by_cases hr : m.tmod n < 0
    · have : ¬ n < 0 := fun hh => h (by rw [decide_eq_true hr, decide_eq_true hh])
      omega
    · have : n < 0 := by
        rcases Int.lt_or_le n 0 with hh | hh
        · exact hh
        · exact absurd (by rw [decide_eq_false hr, decide_eq_false (by omega)]) h
      omega
end Go.Proofs.YtaiikjgoofefgaaGreatDoor
/- The reference's Div on short numbers (not built). -/
namespace Go.Proofs.YtaiikjgoofefgaaGreatDoor
open Go.RowKit Go.Shelf

set_option maxRecDepth 20000 in
set_option maxHeartbeats 1000000 in
theorem rDiv_zero (a b : List UInt8) (w : World) (ha : a.length ≤ 100000) (hb : b.length ≤ 100000) (h0 : val b = 0) : Calls Tryz.prog 74 #[S a, S b] w (Div3Post (val a) (val b) w) := by
  have HSa := Lib.hid (rShort_any a w (by omega))
  have HSb := Lib.hid (rShort_any b w (by omega))
  have HPO := Lib.hid (show Div3Post (val a) (val b) w = fun e w' => e = .returned (if val b = 0 then .tuple #[S [], S [], .int .i64 10] else .tuple #[S (txtL ((val a).fdiv (val b))), S (txtL ((val a).fmod (val b))), .int .i64 0]) ∧ Below w.heap.size w w' from rfl)
  rw [if_pos h0] at HPO
  have hkb : (shortL b).2 = true := by
    cases h : (shortL b).2 with
    | true => rfl
    | false => exact absurd h0 (short_nz b h)
  have hn : (shortL b).1 = 0 := by rw [(short_facts b).2.2 hkb, h0]
  rw [hkb, hn] at HSb
  generalize Div3Post (val a) (val b) w = post at *
  generalize (shortL a).1 = m at *
  generalize (shortL a).2 = ka at *
  clear ha hb h0 hkb hn
  unfold S at *
  go_enter Tryz.func74, Tryz.ntmps74
  go_wp2_with fail
  refine HSa.out.mono ?_
  rintro e w1 ⟨rfl, rfl⟩
  go_wp2_with fail
  refine HSb.out.mono ?_
  rintro e w1 ⟨rfl, rfl⟩
  go_wp2_with fail
  go_ret3
  rw [HPO.out]
  exact ⟨rfl, Below.refl _ _⟩
theorem nat_abs_lt {q m : Int} (h : q.natAbs ≤ m.natAbs) (h1 : -100000000000000000 < m) (h2 : m < 100000000000000000) : -100000000000000000 < q ∧ q < 100000000000000000 := by omega
set_option maxRecDepth 20000 in
set_option maxHeartbeats 1000000 in
theorem rDiv_short (a b : List UInt8) (w : World) (ha : a.length ≤ 100000) (hb : b.length ≤ 100000) (h0 : val b ≠ 0) (hka : (shortL a).2 = true) (hkb : (shortL b).2 = true) : Calls Tryz.prog 74 #[S a, S b] w (Div3Post (val a) (val b) w) := by
  have HSa := Lib.hid (rShort_any a w (by omega))
  have HSb := Lib.hid (rShort_any b w (by omega))
  have HPO := Lib.hid (show Div3Post (val a) (val b) w = fun e w' => e = .returned (if val b = 0 then .tuple #[S [], S [], .int .i64 10] else .tuple #[S (txtL ((val a).fdiv (val b))), S (txtL ((val a).fmod (val b))), .int .i64 0]) ∧ Below w.heap.size w w' from rfl)
  rw [if_neg h0] at HPO
  obtain ⟨la, ua, ea⟩ := short_facts a
  obtain ⟨lb, ub, eb⟩ := short_facts b
  rw [ea hka, hka] at HSa
  rw [eb hkb, hkb] at HSb
  rw [ea hka] at la ua
  rw [eb hkb] at lb ub
  generalize Div3Post (val a) (val b) w = post at *
  clear ea eb ha hb hka hkb
  generalize val a = m at *
  generalize val b = n at *
  obtain ⟨t1, t2, t3, t4, t5⟩ := tdm_bounds m n h0
  clear t3 t4 t5
  have HFM := Lib.hid (floor_mend m n h0)
  obtain ⟨q, hq⟩ : ∃ q, m.tdiv n = q := ⟨_, rfl⟩
  obtain ⟨r, hr⟩ : ∃ r, m.tmod n = r := ⟨_, rfl⟩
  rw [hq] at t1 HFM
  rw [hr] at t2 HFM
  obtain ⟨q1, q2⟩ := nat_abs_lt t1 la ua
  obtain ⟨r1, r2⟩ := nat_abs_lt (Nat.le_of_lt t2) lb ub
  have hn0 : (n == 0) = false := by simpa using h0
  have HOF := Lib.hid (fun (W : World) (k : Int) h1 h2 => rOf_any k h1 h2 W)
  unfold S at *
  clear t1 t2
  go_enter Tryz.func74, Tryz.ntmps74
  go_wp2_with fail
  refine HSa.out.mono ?_
  rintro e w1 ⟨rfl, rfl⟩
  go_wp2_with fail
  refine HSb.out.mono ?_
  rintro e w1 ⟨rfl, rfl⟩
  go_upto_region 6 with (fail)
  go_region
  have HB := Lib.hid (show Below w.heap.size w w.drew from (Below.refl _ _).drew)
  generalize w.drew = W at *
  clear hq hr HSa HSb hn0
  by_cases hr0 : r = 0
  · obtain ⟨e1, e2⟩ := HFM.out.1 (.inl hr0)
    subst hr0
    have HE1 := Lib.hid e1; have HE2 := Lib.hid e2; clear e1 e2 HFM
    have HOQ := Lib.hid (HOF.out W q (by omega) (by omega)); have HOR := Lib.hid (HOF.out W 0 (by omega) (by omega))
    clear HOF
    go_wp2_with fail
    refine HOQ.out.mono ?_
    rintro e w1 ⟨rfl, rfl⟩
    go_wp2_with fail
    refine HOR.out.mono ?_
    rintro e w1 ⟨rfl, rfl⟩
    go_wp2_with fail
    go_ret3
    rw [HPO.out, HE1.out, HE2.out]
    exact ⟨rfl, HB.out⟩
  have hrb : (r == 0) = false := by simpa using hr0

  rcases Int.lt_or_le r 0 with h1 | h1 <;> rcases Int.lt_or_le n 0 with h2 | h2
  · obtain ⟨e1, e2⟩ := HFM.out.1 (.inr (by rw [decide_eq_true h1, decide_eq_true h2]))
    have HE1 := Lib.hid e1; have HE2 := Lib.hid e2; clear e1 e2 HFM
    have HOQ := Lib.hid (HOF.out W q (by omega) (by omega)); have HOR := Lib.hid (HOF.out W r (by omega) (by omega))
    clear HOF
    go_wp2_with fail
    refine HOQ.out.mono ?_
    rintro e w1 ⟨rfl, rfl⟩
    go_wp2_with fail
    refine HOR.out.mono ?_
    rintro e w1 ⟨rfl, rfl⟩
    go_wp2_with fail
    go_ret3
    rw [HPO.out, HE1.out, HE2.out]
    exact ⟨rfl, HB.out⟩
  · obtain ⟨e1, e2⟩ := HFM.out.2 ⟨hr0, by rw [decide_eq_true h1, decide_eq_false (by omega)]; simp⟩
    have HE1 := Lib.hid e1; have HE2 := Lib.hid e2; clear e1 e2 HFM
    have HOQ := Lib.hid (HOF.out W (q - 1) (by omega) (by omega)); have HOR := Lib.hid (HOF.out W (r + n) (by omega) (by omega))
    clear HOF
    have g2 : ¬ n < 0 := by omega
    go_wp2_with fail
    refine HOQ.out.mono ?_
    rintro e w1 ⟨rfl, rfl⟩
    go_wp2_with fail
    refine HOR.out.mono ?_
    rintro e w1 ⟨rfl, rfl⟩
    go_wp2_with fail
    go_ret3
    rw [HPO.out, HE1.out, HE2.out]
    exact ⟨rfl, HB.out⟩
  · obtain ⟨e1, e2⟩ := HFM.out.2 ⟨hr0, by rw [decide_eq_false (by omega), decide_eq_true h2]; simp⟩
    have HE1 := Lib.hid e1; have HE2 := Lib.hid e2; clear e1 e2 HFM
    have HOQ := Lib.hid (HOF.out W (q - 1) (by omega) (by omega)); have HOR := Lib.hid (HOF.out W (r + n) (by omega) (by omega))
    clear HOF
    have g1 : ¬ r < 0 := by omega
    go_wp2_with fail
    refine HOQ.out.mono ?_
    rintro e w1 ⟨rfl, rfl⟩
    go_wp2_with fail
    refine HOR.out.mono ?_
    rintro e w1 ⟨rfl, rfl⟩
    go_wp2_with fail
    go_ret3
    rw [HPO.out, HE1.out, HE2.out]
    exact ⟨rfl, HB.out⟩
  · obtain ⟨e1, e2⟩ := HFM.out.1 (.inr (by rw [decide_eq_false (by omega), decide_eq_false (by omega)]))
    have HE1 := Lib.hid e1; have HE2 := Lib.hid e2; clear e1 e2 HFM
    have HOQ := Lib.hid (HOF.out W q (by omega) (by omega)); have HOR := Lib.hid (HOF.out W r (by omega) (by omega))
    clear HOF
    have g1 : ¬ r < 0 := by omega
    have g2 : ¬ n < 0 := by omega
    go_wp2_with fail
    refine HOQ.out.mono ?_
    rintro e w1 ⟨rfl, rfl⟩
    go_wp2_with fail
    refine HOR.out.mono ?_
    rintro e w1 ⟨rfl, rfl⟩
    go_wp2_with fail
    go_ret3
    rw [HPO.out, HE1.out, HE2.out]
    exact ⟨rfl, HB.out⟩
end Go.Proofs.YtaiikjgoofefgaaGreatDoor
