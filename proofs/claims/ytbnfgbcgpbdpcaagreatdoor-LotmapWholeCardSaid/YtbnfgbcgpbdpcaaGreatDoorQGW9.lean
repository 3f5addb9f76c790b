/- Merged texts: D1, A0. -/
import Derived.Test.YtbnfgbcgpbdpcaaGreatDoorQGW1
import Derived.Test.YtbnfgbcgpbdpcaaGreatDoorQGW8
import Derived.Test.YtbnfgbcgpbdpcaaGreatDoorQGW4
/- Contracts of fraction's Floor, Parts and New, of decimal's even and Round, of integer's Check. -/
namespace Go.Proofs.YtbnfgbcgpbdpcaaGreatDoor
open Go.RowKit Go.Shelf

set_option maxRecDepth 20000 in
theorem partz_any (f : Fr) (hf : f.Sz 40000) : Gives 50 #[FrV f] (.tuple #[S (txtL f.rat.num), S (txtL f.rat.den)]) := by
  intro w hp
  have H := Lib.hid ((Kp.start hp).new w.heap.size rfl #[.string ⟨f.n.toArray⟩, .string ⟨f.d.toArray⟩] 26)
  have HPA := Lib.hid (fun W => parts_any f W (by have := hf.2; omega))
  have HRD := Lib.hid (fun W hp => reduced_any f.n f.dt W hp (by have := hf.1; omega) (by have := Fr.dt_len hf.2 (by omega); omega) (by rw [Fr.val_dt]; exact f.dv_ne))
  rw [Fr.val_dt, show Rat.divInt (val f.n) f.dv = f.rat from rfl] at HRD
  generalize txtL f.rat.num = qn at *
  generalize txtL (f.rat.den : Int) = qd at *
  have x0 : (w.alloc (.cells #[.string ⟨f.n.toArray⟩, .string ⟨f.d.toArray⟩] 26)).cell? ⟨w.heap.size, 0, none⟩ = some (.string ⟨f.n.toArray⟩) := H.out.c 0 0 rfl rfl
  have x1 : (w.alloc (.cells #[.string ⟨f.n.toArray⟩, .string ⟨f.d.toArray⟩] 26)).cell? ⟨w.heap.size, 1, none⟩ = some (.string ⟨f.d.toArray⟩) := H.out.c 0 1 rfl rfl
  clear hf hp
  unfold FrV at *
  unfold S at *
  go_enter Tryz.func50, Tryz.ntmps50
  go_wp2_with fail
  generalize w.alloc (.cells #[.string ⟨f.n.toArray⟩, .string ⟨f.d.toArray⟩] 26) = W at *
  refine (HPA.out _).mono ?_
  rintro e w1 ⟨rfl, hb⟩
  unfold S
  replace H := Lib.hid (H.out.here hb)
  clear hb x0 x1
  go_wp2_with fail
  refine (HRD.out _ H.out.po).mono ?_
  rintro e w2 ⟨rfl, hb⟩
  unfold S
  replace H := Lib.hid (H.out.here hb)
  go_wp2_with fail
  first | go_ret2 | skip
  exact ⟨rfl, H.out.bl⟩
set_option maxRecDepth 20000 in
theorem floor_any (f : Fr) (hf : f.Sz 40000) : Gives 80 #[FrV f] (S (txtL (flo f.rat))) := by
  intro w hp
  have H := Lib.hid ((Kp.start hp).new w.heap.size rfl #[.string ⟨f.n.toArray⟩, .string ⟨f.d.toArray⟩] 26)
  have HPA := Lib.hid (fun W => parts_any f W (by have := hf.2; omega))
  have hdv : val f.dt ≠ 0 := by rw [Fr.val_dt]; exact f.dv_ne
  have HDV := Lib.hid (fun W hp => (Div_any f.n f.dt W hp (by have := hf.1; omega) (by have := Fr.dt_len hf.2 (by omega); omega)).mono fun e w' h => Div3_ok hdv h)
  have HF := Lib.hid (show txtL ((val f.n).fdiv (val f.dt)) = txtL (flo f.rat) by rw [Fr.val_dt, fdiv_flo _ _ f.dv_ne]; rfl)
  rw [HF.out] at HDV
  generalize txtL (flo f.rat) = res at *
  have x0 : (w.alloc (.cells #[.string ⟨f.n.toArray⟩, .string ⟨f.d.toArray⟩] 26)).cell? ⟨w.heap.size, 0, none⟩ = some (.string ⟨f.n.toArray⟩) := H.out.c 0 0 rfl rfl
  have x1 : (w.alloc (.cells #[.string ⟨f.n.toArray⟩, .string ⟨f.d.toArray⟩] 26)).cell? ⟨w.heap.size, 1, none⟩ = some (.string ⟨f.d.toArray⟩) := H.out.c 0 1 rfl rfl
  clear hf hp hdv HF
  unfold FrV at *
  unfold S at *
  go_enter Tryz.func80, Tryz.ntmps80
  go_wp2_with fail
  generalize w.alloc (.cells #[.string ⟨f.n.toArray⟩, .string ⟨f.d.toArray⟩] 26) = W at *
  refine (HPA.out _).mono ?_
  rintro e w1 ⟨rfl, hb⟩
  unfold S
  replace H := Lib.hid (H.out.here hb)
  clear hb x0 x1
  go_wp2_with fail
  refine (HDV.out _ H.out.po).mono ?_
  rintro e w2 ⟨rfl, hb⟩
  replace H := Lib.hid (H.out.here hb)
  go_wp2_with fail
  first | go_ret | skip
  exact ⟨rfl, H.out.bl⟩
/-- What New gives. -/
def nwL (f : Fr) : Fr × Int := if val f.d = 0 then (Fr.zero, 10) else (frOf (Rat.divInt (val f.n) (val f.d)), 0)
set_option maxRecDepth 20000 in
set_option maxHeartbeats 1000000 in
theorem new_any (f : Fr) (hf : f.Sz 50000) : Gives 160 #[S f.n, S f.d] (.tuple #[FrV (nwL f).1, .int .i64 (nwL f).2]) := by
  intro w hp
  have H := Lib.hid ((Kp.start hp).new w.heap.size rfl #[.string ⟨#[]⟩, .string ⟨#[]⟩] 26)
  have HCM := Lib.hid (fun W => Compare_any f.d [] W (by have := hf.2; omega) (by simp))
  rw [val_nil, Int.sub_zero] at HCM
  have HMD := Lib.hid (fun W hp h0 => made_any f.n f.d W hp hf.1 hf.2 h0)
  have HNL := Lib.hid (show nwL f = if val f.d = 0 then (Fr.zero, 10) else (frOf (Rat.divInt (val f.n) (val f.d)), 0) from rfl)
  generalize nwL f = nl at *
  generalize frOf (Rat.divInt (val f.n) (val f.d)) = res at *
  have HS := Lib.hid (sgn_zero (val f.d))
  clear hf hp
  unfold FrV at *
  unfold S at *
  go_enter Tryz.func160, Tryz.ntmps160
  go_wp2_with fail
  generalize w.alloc (.cells #[.string ⟨#[]⟩, .string ⟨#[]⟩] 26) = W at *
  refine (HCM.out _).mono ?_
  rintro e w1 ⟨rfl, hb⟩
  replace H := Lib.hid (H.out.here hb)
  have c0 : w1.cell? ⟨w.heap.size, 0, none⟩ = some (.string ⟨#[]⟩) := H.out.c 0 0 rfl rfl
  have c1 : w1.cell? ⟨w.heap.size, 1, none⟩ = some (.string ⟨#[]⟩) := H.out.c 0 1 rfl rfl
  have f0 := H.out.f 0 0 rfl; have f1 := H.out.f 0 1 rfl
  clear hb
  by_cases h0 : val f.d = 0
  · have hs : (sgnI (val f.d) == 0) = true := by rw [HS.out]; simp [h0]
    rw [if_pos h0] at HNL
    clear h0 HS HMD
    go_wp2_with fail
    refine bodyPost_ret (v := .tuple #[.agg #[.string ⟨#[]⟩, .string ⟨#[]⟩], .int .i64 10]) (by simp [results, Tryz.results160, go_sem, c0, c1]) rfl ?_
    rw [HNL.out]
    exact ⟨rfl, ((H.out.set 0 0 rfl _).set 0 1 rfl _).bl⟩
  · have hs : (sgnI (val f.d) == 0) = false := by rw [HS.out]; simp [h0]
    rw [if_neg h0] at HNL
    have HMD2 := Lib.hid (fun W hp => HMD.out W hp h0)
    clear h0 HS HMD c0 c1 f0 f1
    go_wp2_with fail
    refine (HMD2.out _ H.out.po).mono ?_
    rintro e w2 ⟨rfl, hb⟩
    unfold FrV S
    replace H := Lib.hid (H.out.here hb)
    have c0 : w2.cell? ⟨w.heap.size, 0, none⟩ = some (.string ⟨#[]⟩) := H.out.c 0 0 rfl rfl
    have c1 : w2.cell? ⟨w.heap.size, 1, none⟩ = some (.string ⟨#[]⟩) := H.out.c 0 1 rfl rfl
    have f0 := H.out.f 0 0 rfl; have f1 := H.out.f 0 1 rfl
    go_wp2_with fail
    refine bodyPost_ret (v := .tuple #[.agg #[.string ⟨res.n.toArray⟩, .string ⟨res.d.toArray⟩], .int .i64 0]) (by simp [results, Tryz.results160, go_sem, c0, c1]) rfl ?_
    rw [HNL.out]
    exact ⟨rfl, ((H.out.set 0 0 rfl _).set 0 1 rfl _).bl⟩
set_option maxRecDepth 20000 in
theorem iCheck_any (a : List UInt8) (ha : a.length ≤ 1000000000) : Gives 39 #[S a] (.int .i64 (if a = txtL (val a) then 0 else 1)) := by
  intro w hp
  have HC := Lib.hid (canonical_any a w ha)
  rw [canon_val] at HC
  have HEQ := Lib.hid (show ∀ t : List UInt8, (if a = t then (0 : Int) else 1) = if (a == t) = true then 0 else 1 by intro t; by_cases h : a = t <;> simp [h])
  rw [HEQ.out]
  clear HEQ ha
  generalize txtL (val a) = t at *
  unfold S at *
  cases h : (a == t)
  all_goals
    go_enter Tryz.func39, Tryz.ntmps39
    go_wp2_with fail
    refine HC.out.mono ?_
    rintro e w1 ⟨rfl, hb⟩
    go_wp2_with fail
    first | go_ret | skip
    exact ⟨rfl, hb⟩
theorem two_val : val [50] = 2 := by decide +kernel
set_option maxRecDepth 20000 in
theorem even_any (a : List UInt8) (ha : a.length ≤ 100000) : Gives 52 #[S a] (.bool (decide ((val a).fmod 2 = 0))) := by
  intro w hp
  have HDV := Lib.hid ((Div_any a [50] w hp.pow ha (by simp)).mono fun e w' h => Div3_ok (by rw [two_val]; omega) h)
  rw [two_val] at HDV
  have HE := Lib.hid (show (txtL ((val a).fmod 2) == []) = decide ((val a).fmod 2 = 0) by
    rw [Bool.eq_iff_iff]
    simp only [beq_iff_eq, decide_eq_true_eq]
    exact txtL_nil)
  generalize txtL ((val a).fmod 2) = t at *
  generalize decide ((val a).fmod 2 = 0) = bb at *
  clear ha hp
  unfold S at *
  go_enter Tryz.func52, Tryz.ntmps52
  go_wp2_with fail
  refine HDV.out.mono ?_
  rintro e w1 ⟨rfl, hb⟩
  go_wp2_with fail
  first | go_ret | skip
  exact ⟨ret_bool ((show t.isEmpty = (t == []) by cases t <;> rfl).trans HE.out), hb⟩
theorem rnd_case (q : Rat) : (flr q = 0 ∧ rnd q = flo q) ∨ (flr q ≠ 0 ∧ sgnI (flr q + flr q - q.den) = -1 ∧ rnd q = flo q) ∨ (flr q ≠ 0 ∧ sgnI (flr q + flr q - q.den) = 0 ∧ rnd q = if (flo q).fmod 2 = 0 then flo q else flo q + 1) ∨ (flr q ≠ 0 ∧ sgnI (flr q + flr q - q.den) = 1 ∧ rnd q = flo q + 1) := by
  have hb := flr_bounds q
  unfold rnd sgnI
  by_cases h0 : flr q = 0
  · exact .inl ⟨h0, by rw [if_neg]; omega⟩
  · rcases Int.lt_trichotomy (2 * flr q) q.den with h | h | h
    · exact .inr (.inl ⟨h0, by rw [if_pos (by omega)], by rw [if_neg]; omega⟩)
    · refine .inr (.inr (.inl ⟨h0, by rw [if_neg (by omega), if_neg (by omega)], ?_⟩))
      by_cases he : (flo q).fmod 2 = 0
      · rw [if_pos he, if_neg]; omega
      · rw [if_neg he, if_pos (.inr ⟨h, he⟩)]
    · exact .inr (.inr (.inr ⟨h0, by rw [if_neg (by omega), if_pos (by omega)], by rw [if_pos (.inl h)]⟩))
set_option maxRecDepth 20000 in
set_option maxHeartbeats 2000000 in
theorem round_any (f : Fr) (hf : f.Sz 20000) : Gives 20 #[FrV f, .int .i64 1] (.tuple #[S (txtL (rnd f.rat)), .int .i64 0]) := by
  intro w hp
  have H := Lib.hid ((Kp.start hp).new w.heap.size rfl #[.string ⟨f.n.toArray⟩, .string ⟨f.d.toArray⟩] 26)
  have HPA := Lib.hid (partz_any f (hf.more (by omega)))
  have hsz : f.rat.num.natAbs < 10 ^ 20000 ∧ f.rat.den < 10 ^ 20000 := by
    obtain ⟨K, hK⟩ : ∃ K : Nat, K = 20000 := ⟨_, rfl⟩
    rw [← hK] at hf ⊢
    exact sz_rb hf (by omega)
  have hd0 : (f.rat.den : Int) ≠ 0 := by have := f.rat.den_nz; omega
  have hbd := flr_bounds f.rat
  have hlo := flo_le f.rat
  have HRC := Lib.hid (rnd_case f.rat)
  generalize hq : f.rat = q at *
  obtain ⟨K, hK⟩ : ∃ K : Nat, K = 20000 := ⟨_, rfl⟩
  rw [← hK] at hsz
  have hp1 : 10 ^ K + 1 < 10 ^ (K + 1) := by have : 1 ≤ 10 ^ K := Nat.pow_pos (by omega); rw [Nat.pow_succ]; have : 10 ^ 1 ≤ 10 ^ K := Nat.pow_le_pow_right (by omega) (by omega); omega
  have hp2 : 10 ^ (K + 1) + 1 < 10 ^ (K + 2) := by have : 10 ^ 1 ≤ 10 ^ (K + 1) := Nat.pow_le_pow_right (by omega) (by omega); rw [Nat.pow_succ 10 (K + 1)]; omega
  have l1 := txtL_length (n := q.num) (L := K) hsz.1
  have l2 := txtL_length (n := (q.den : Int)) (L := K) (by simpa using hsz.2)
  have l3 := txtL_length (n := flo q) (L := K + 1) (by omega)
  have l4 := txtL_length (n := flr q) (L := K) (by omega)
  have l5 := txtL_length (n := flr q + flr q) (L := K + 1) (by omega)
  clear hp1 hp2 hlo hsz
  have HDV := Lib.hid (fun W hp => (Div_any (txtL q.num) (txtL q.den) W hp (by omega) (by omega)).mono fun e w' h => Div3_ok (by rw [val_txtL]; exact hd0) h)
  rw [val_txtL, val_txtL, show q.num.fdiv (q.den : Int) = flo q from rfl, show q.num.fmod (q.den : Int) = flr q from rfl] at HDV
  have HCN := Lib.hid (fun W => Compare_any (txtL q.num) [] W (by omega) (by simp))
  have HAR := Lib.hid (fun W hp => Add_any (txtL (flr q)) (txtL (flr q)) W hp (by omega) (by omega))
  rw [val_txtL] at HAR
  have HCM := Lib.hid (fun W => Compare_any (txtL (flr q + flr q)) (txtL q.den) W (by omega) (by omega))
  rw [val_txtL, val_txtL] at HCM
  have HAD := Lib.hid (fun W hp => Add_any (txtL (flo q)) [49] W hp (by omega) (by simp))
  rw [val_txtL, one_val] at HAD
  have HEV := Lib.hid (even_any (txtL (flo q)) (by omega))
  rw [val_txtL] at HEV
  have HNZ := Lib.hid (show flr q ≠ 0 → (txtL (flr q) == []) = false by
    intro h
    rw [Bool.eq_false_iff]
    intro h2
    exact h (txtL_nil.1 (eq_of_beq h2)))
  clear hf hp hq hK l1 l2 l3 l4 l5 hbd hd0
  have x0 : (w.alloc (.cells #[.string ⟨f.n.toArray⟩, .string ⟨f.d.toArray⟩] 26)).cell? ⟨w.heap.size, 0, none⟩ = some (.string ⟨f.n.toArray⟩) := H.out.c 0 0 rfl rfl
  have x1 : (w.alloc (.cells #[.string ⟨f.n.toArray⟩, .string ⟨f.d.toArray⟩] 26)).cell? ⟨w.heap.size, 1, none⟩ = some (.string ⟨f.d.toArray⟩) := H.out.c 0 1 rfl rfl
  generalize sgnI (val (txtL q.num) - val []) = sn at *
  unfold FrV at *
  unfold S at *
  go_enter Tryz.func20, Tryz.ntmps20
  go_wp2_with fail
  generalize w.alloc (.cells #[.string ⟨f.n.toArray⟩, .string ⟨f.d.toArray⟩] 26) = W at *
  refine (HPA.out _ H.out.pw).mono ?_
  rintro e w1 ⟨rfl, hb⟩
  replace H := Lib.hid (H.out.here hb)
  clear hb x0 x1
  go_wp2_with fail
  refine (HDV.out _ H.out.po).mono ?_
  rintro e w2 ⟨rfl, hb⟩
  replace H := Lib.hid (H.out.here hb)
  clear hb
  rcases HRC.out with ⟨hr, hres⟩ | ⟨hr, hs, hres⟩ | ⟨hr, hs, hres⟩ | ⟨hr, hs, hres⟩
  · rw [hr] at HAR HCM ⊢
    rw [show txtL (0 : Int) = [] from rfl] at HAR ⊢
    rw [show (0 : Int) + 0 = 0 from rfl, show txtL (0 : Int) = [] from rfl] at HAR
    rw [show (0 : Int) + 0 = 0 from rfl, show txtL (0 : Int) = [] from rfl, show sgnI (0 - (q.den : Int)) = -1 by unfold sgnI; rw [if_pos]; have := q.den_pos; omega] at HCM
    have HRES := Lib.hid hres
    clear hr hres HRC HNZ HAD
    go_wp2_with fail
    refine (HCN.out _).mono ?_
    rintro e w3 ⟨rfl, hb⟩
    replace H := Lib.hid (H.out.here hb)
    clear hb
    go_wp2_with fail
    refine (HAR.out _ H.out.po).mono ?_
    rintro e w4 ⟨rfl, hb⟩
    replace H := Lib.hid (H.out.here hb)
    clear hb
    try unfold S
    go_wp2_with fail
    refine (HCM.out _).mono ?_
    rintro e w5 ⟨rfl, hb⟩
    replace H := Lib.hid (H.out.here hb)
    clear hb
    go_wp2_with fail
    first | go_ret2 | skip
    rw [HRES.out]
    exact ⟨rfl, H.out.bl⟩
  all_goals
    have hne := HNZ.out hr
    rw [hs] at HCM
    have HRES := Lib.hid hres
    clear hr hs hres HRC HNZ
    go_wp2_with fail
    refine (HAD.out _ H.out.po).mono ?_
    rintro e w2b ⟨rfl, hb⟩
    replace H := Lib.hid (H.out.here hb)
    clear hb
    try unfold S
    go_wp2_with fail
    refine (HCN.out _).mono ?_
    rintro e w3 ⟨rfl, hb⟩
    replace H := Lib.hid (H.out.here hb)
    clear hb
    go_wp2_with fail
    refine (HAR.out _ H.out.po).mono ?_
    rintro e w4 ⟨rfl, hb⟩
    replace H := Lib.hid (H.out.here hb)
    clear hb
    try unfold S
    go_wp2_with fail
    refine (HCM.out _).mono ?_
    rintro e w5 ⟨rfl, hb⟩
    replace H := Lib.hid (H.out.here hb)
    clear hb
  · go_wp2_with fail
    first | go_ret2 | skip
    rw [HRES.out]
    exact ⟨rfl, H.out.bl⟩
  · by_cases he : (flo q).fmod 2 = 0
    · rw [if_pos he] at HRES
      rw [show decide ((flo q).fmod 2 = 0) = true by simp [he]] at HEV
      clear he
      go_wp2_with fail
      refine (HEV.out _ H.out.pw).mono ?_
      rintro e w6 ⟨rfl, hb⟩
      replace H := Lib.hid (H.out.here hb)
      clear hb
      go_wp2_with fail
      first | go_ret2 | skip
      rw [HRES.out]
      exact ⟨rfl, H.out.bl⟩
    · rw [if_neg he] at HRES
      rw [show decide ((flo q).fmod 2 = 0) = false by simp [he]] at HEV
      clear he
      go_wp2_with fail
      refine (HEV.out _ H.out.pw).mono ?_
      rintro e w6 ⟨rfl, hb⟩
      replace H := Lib.hid (H.out.here hb)
      clear hb
      go_wp2_with fail
      first | go_ret2 | skip
      rw [HRES.out]
      exact ⟨rfl, H.out.bl⟩
  · go_wp2_with fail
    first | go_ret2 | skip
    rw [HRES.out]
    exact ⟨rfl, H.out.bl⟩
end Go.Proofs.YtbnfgbcgpbdpcaaGreatDoor
/- Division of an integer by weights (the greatest remainders are rounded up), plain. -/
namespace Go.Proofs.YtbnfgbcgpbdpcaaGreatDoor
open Go.RowKit Go.Shelf

def baseL (t : Int) (ws : List Int) : List Int := ws.map fun w => (t * w).fdiv ws.sum
def restL (t : Int) (ws : List Int) : List Int := ws.map fun w => (t * w).fmod ws.sum
def missL (t : Int) (ws : List Int) : Int := t - (baseL t ws).sum
/-- i stands before k: the greater rest first, then the lesser index. -/
def befB (rs : List Int) (i k : Nat) : Bool := decide (rs.getD k 0 < rs.getD i 0 ∨ (rs.getD i 0 = rs.getD k 0 ∧ i ≤ k))
def ordL (rs : List Int) : List Nat := (List.range rs.length).mergeSort (befB rs)
/-- Those that are rounded up. -/
def upL (t : Int) (ws : List Int) : List Nat := (ordL (restL t ws)).take (missL t ws).toNat
def posL (t : Int) (ws : List Int) : List Int := (baseL t ws).mapIdx fun i b => if i ∈ upL t ws then b + 1 else b

theorem sum_append_ (l m : List Int) : (l ++ m).sum = l.sum + m.sum := by
  induction l with
  | nil => simp
  | cons a l ih => simp only [List.cons_append, List.sum_cons, ih]; omega
theorem sum_nonneg_ {l : List Int} (h : ∀ x ∈ l, 0 ≤ x) : 0 ≤ l.sum := by
  induction l with
  | nil => simp
  | cons a l ih =>
    have h1 := h a (by simp)
    have h2 := ih (fun x hx => h x (by simp [hx]))
    simp only [List.sum_cons]; omega
theorem le_sum_ {l : List Int} (h : ∀ x ∈ l, 0 ≤ x) {x : Int} (hx : x ∈ l) : x ≤ l.sum := by
  induction l with
  | nil => simp at hx
  | cons a l ih =>
    have h1 := h a (by simp)
    have h2 := sum_nonneg_ (fun x hx => h x (List.mem_cons_of_mem a hx))
    simp only [List.sum_cons]
    rcases List.mem_cons.1 hx with e | hx
    · omega
    · have := ih (fun x hx => h x (by simp [hx])) hx; omega
theorem sum_mul_ (c : Int) (l : List Int) : (l.map (c * ·)).sum = c * l.sum := by
  induction l with
  | nil => simp
  | cons a l ih => simp only [List.map_cons, List.sum_cons, ih, Int.mul_add]
theorem sum_base_rest' (t S : Int) (ws : List Int) : S * (ws.map fun w => (t * w).fdiv S).sum + (ws.map fun w => (t * w).fmod S).sum = t * ws.sum := by
  induction ws with
  | nil => simp
  | cons a l ih =>
    simp only [List.map_cons, List.sum_cons, Int.mul_add] at ih ⊢
    have := Int.mul_fdiv_add_fmod (t * a) S
    omega
theorem sum_base_rest (t : Int) (ws : List Int) : ws.sum * (baseL t ws).sum + (restL t ws).sum = t * ws.sum := sum_base_rest' t ws.sum ws
/-- The rests together are S times what is missing. -/
theorem sum_rest (t : Int) (ws : List Int) : (restL t ws).sum = ws.sum * missL t ws := by
  have h := sum_base_rest t ws
  unfold missL
  rw [Int.mul_sub, Int.mul_comm ws.sum t]
  omega
theorem rest_bounds (t : Int) {ws : List Int} (hS : 0 < ws.sum) : ∀ r ∈ restL t ws, 0 ≤ r ∧ r < ws.sum := by
  intro r hr
  obtain ⟨w, _, rfl⟩ := List.mem_map.1 hr
  exact ⟨Int.fmod_nonneg_of_pos _ hS, Int.fmod_lt_of_pos _ hS⟩
theorem miss_nonneg (t : Int) {ws : List Int} (hS : 0 < ws.sum) : 0 ≤ missL t ws := by
  have h1 := sum_rest t ws
  have h2 := sum_nonneg_ (fun r hr => (rest_bounds t hS r hr).1)
  rw [h1] at h2
  rcases Int.lt_or_le (missL t ws) 0 with h | h
  · have := Int.mul_neg_of_pos_of_neg hS h; omega
  · exact h
/-- Fewer are missing than have a rest. -/
theorem sum_lt_count {S : Int} {l : List Int} (h : ∀ r ∈ l, 0 ≤ r ∧ r < S) : l.sum ≤ S * (l.countP (fun r => decide (0 < r)) : Nat) ∧ (0 < l.sum → l.sum < S * (l.countP (fun r => decide (0 < r)) : Nat)) := by
  induction l with
  | nil => simp
  | cons a l ih =>
    obtain ⟨h1, h2⟩ := ih (fun r hr => h r (by simp [hr]))
    obtain ⟨h3, h4⟩ := h a (by simp)
    simp only [List.sum_cons, List.countP_cons]
    by_cases ha : 0 < a
    · simp only [ha, decide_true, if_true, Int.natCast_add, Int.mul_add]
      constructor <;> omega
    · have : a = 0 := by omega
      subst this
      simp only [Int.lt_irrefl, decide_false, Bool.false_eq_true, if_false, Nat.add_zero, Int.zero_add]
      exact ⟨h1, h2⟩
theorem miss_lt_count (t : Int) {ws : List Int} (hS : 0 < ws.sum) : missL t ws ≤ ((restL t ws).countP (fun r => decide (0 < r)) : Nat) := by
  have h1 := (sum_lt_count (rest_bounds t hS)).1
  rw [sum_rest] at h1
  exact Int.le_of_mul_le_mul_left h1 hS

theorem befB_total (rs : List Int) (i k : Nat) : (befB rs i k || befB rs k i) = true := by
  unfold befB
  simp only [Bool.or_eq_true, decide_eq_true_eq]
  omega
theorem befB_trans (rs : List Int) (i j k : Nat) (h1 : befB rs i j = true) (h2 : befB rs j k = true) : befB rs i k = true := by
  unfold befB at *
  simp only [decide_eq_true_eq] at *
  omega
theorem ordL_perm (rs : List Int) : (ordL rs).Perm (List.range rs.length) := List.mergeSort_perm _ _
theorem ordL_nodup (rs : List Int) : (ordL rs).Nodup := (ordL_perm rs).nodup_iff.2 List.nodup_range
theorem ordL_sorted (rs : List Int) : (ordL rs).Pairwise (fun i k => befB rs i k = true) := List.pairwise_mergeSort (befB_trans rs) (befB_total rs) _
theorem ordL_mem {rs : List Int} {i : Nat} : i ∈ ordL rs ↔ i < rs.length := by rw [(ordL_perm rs).mem_iff]; exact List.mem_range
theorem ordL_length (rs : List Int) : (ordL rs).length = rs.length := by rw [(ordL_perm rs).length_eq, List.length_range]
theorem count_getD (rs : List Int) (p : Int → Bool) : (List.range rs.length).countP (fun i => p (rs.getD i 0)) = rs.countP p := by
  induction rs with
  | nil => simp
  | cons a l ih =>
    rw [List.length_cons, List.range_succ_eq_map, List.countP_cons, List.countP_cons, List.countP_map]
    simp only [List.getD_cons_zero]
    rw [← ih]
    rfl
/-- What is rounded up has a rest. -/
theorem up_pos (t : Int) {ws : List Int} (hS : 0 < ws.sum) {i : Nat} (hi : i ∈ upL t ws) : 0 < (restL t ws).getD i 0 := by
  have hm := miss_lt_count t hS
  have hb := rest_bounds t hS
  unfold upL at hi
  generalize restL t ws = rs at *
  generalize missL t ws = m at *
  rcases Int.lt_or_le 0 (rs.getD i 0) with h | h
  · exact h
  exfalso
  -- nothing behind i has a rest, so fewer than m have one
  obtain ⟨k, hk, hki⟩ := List.getElem_of_mem hi
  have hkl : k < (ordL rs).length := by rw [List.length_take] at hk; omega
  have hkm : k < m.toNat := by rw [List.length_take] at hk; omega
  rw [List.getElem_take] at hki
  have hsplit : (ordL rs).countP (fun i => decide (0 < rs.getD i 0)) ≤ k := by
    rw [← List.take_append_drop k (ordL rs), List.countP_append]
    have h1 : ((ordL rs).take k).countP (fun i => decide (0 < rs.getD i 0)) ≤ k := Nat.le_trans List.countP_le_length (by rw [List.length_take]; omega)
    have h2 : ((ordL rs).drop k).countP (fun i => decide (0 < rs.getD i 0)) = 0 := by
      rw [List.countP_eq_zero]
      intro j hj
      obtain ⟨l, hl, hlj⟩ := List.getElem_of_mem hj
      rw [List.getElem_drop] at hlj
      have hl' : k + l < (ordL rs).length := by rw [List.length_drop] at hl; omega
      have hle : rs.getD j 0 ≤ rs.getD i 0 := by
        rcases Nat.eq_zero_or_pos l with e | e
        · subst e
          have e2 : i = j := hki.symm.trans hlj
          rw [e2]
          exact Int.le_refl _
        · have := List.pairwise_iff_getElem.1 (ordL_sorted rs) k (k + l) hkl hl' (by omega)
          rw [hki, hlj] at this
          unfold befB at this
          simp only [decide_eq_true_eq] at this
          omega
      simp only [decide_eq_true_eq]
      omega
    omega
  rw [(ordL_perm rs).countP_eq, count_getD rs (fun r => decide (0 < r))] at hsplit
  omega
theorem up_lt (t : Int) {ws : List Int} {i : Nat} (hi : i ∈ upL t ws) : i < ws.length := by
  have := ordL_mem.1 (List.mem_of_mem_take hi)
  simpa [restL] using this
theorem up_length (t : Int) {ws : List Int} (hS : 0 < ws.sum) : ((upL t ws).length : Int) = missL t ws := by
  have h1 := miss_lt_count t hS
  have h2 := miss_nonneg t hS
  have h3 : (restL t ws).countP (fun r => decide (0 < r)) ≤ (restL t ws).length := List.countP_le_length
  unfold upL
  rw [List.length_take, ordL_length]
  omega
theorem posL_length (t : Int) (ws : List Int) : (posL t ws).length = ws.length := by simp [posL, baseL]
theorem posL_get (t : Int) (ws : List Int) (i : Nat) (hi : i < ws.length) : (posL t ws)[i]? = some (if i ∈ upL t ws then (t * ws[i]).fdiv ws.sum + 1 else (t * ws[i]).fdiv ws.sum) := by
  simp [posL, baseL, hi]
theorem sum_mapIdx_up (l : List Int) (P : Nat → Prop) [DecidablePred P] : (l.mapIdx fun i b => if P i then b + 1 else b).sum = l.sum + ((List.range l.length).countP (fun i => decide (P i)) : Nat) := by
  induction l generalizing P with
  | nil => simp
  | cons a l ih =>
    rw [List.mapIdx_cons, List.sum_cons, List.sum_cons, List.length_cons, List.range_succ_eq_map, List.countP_cons, List.countP_map]
    have := ih (fun i => P (i + 1))
    rw [this]
    have e : ((fun i => decide (P i)) ∘ Nat.succ) = fun i => decide (P (i + 1)) := rfl
    rw [e]
    by_cases h0 : P 0 <;> simp [h0] <;> omega
/-- Nothing is lost. -/
theorem sum_posL (t : Int) {ws : List Int} (hS : 0 < ws.sum) : (posL t ws).sum = t := by
  unfold posL
  rw [sum_mapIdx_up (baseL t ws) (fun i => i ∈ upL t ws)]
  have h1 : (List.range (baseL t ws).length).countP (fun i => decide (i ∈ upL t ws)) = (upL t ws).length := by
    have hl : (baseL t ws).length = (restL t ws).length := by simp [baseL, restL]
    rw [hl, ← (ordL_perm (restL t ws)).countP_eq]
    have hn := ordL_nodup (restL t ws)
    unfold upL
    generalize ordL (restL t ws) = o at *
    generalize (missL t ws).toNat = m at *
    have hd : ((o.take m) ++ (o.drop m)).Nodup := by rw [List.take_append_drop]; exact hn
    rw [List.nodup_append] at hd
    have e : o.countP (fun i => decide (i ∈ o.take m)) = (o.take m).countP (fun i => decide (i ∈ o.take m)) + (o.drop m).countP (fun i => decide (i ∈ o.take m)) := by
      rw [← List.countP_append, List.take_append_drop]
    rw [e, List.countP_eq_length.2 (fun a ha => by simpa using ha), List.countP_eq_zero.2 (fun a ha => by
      simp only [decide_eq_true_eq]
      intro hm
      exact hd.2.2 a hm a ha rfl)]
    rfl
  rw [h1, up_length t hS]
  unfold missL
  omega
end Go.Proofs.YtbnfgbcgpbdpcaaGreatDoor
