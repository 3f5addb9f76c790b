/- Merged texts: AL3, Lp1, Mq1, Mq2, Mq3. -/
import Derived.Test.YtpnncoinlopndaaGreatDoorAL2qGTn
import Derived.Test.YtpnncoinlopndaaGreatDoorQGTn8
import Derived.Test.YtpnncoinlopndaaGreatDoorQGTn7
import Derived.Deep.RegionHeld3
import Derived.Deep.DrawnRows
namespace Go.Proofs.YtpnncoinlopndaaGreatDoor
open Go.RowKit Go.Shelf
def RowPost (l : List Int) (n : Nat) (w : World) (e : Ending) (w' : World) : Prop := ∃ P, e = .returned (.slice (some ⟨P, 0, none⟩) n n) ∧ BlkB w' P (partA l n n) 24 ∧ w.heap.size ≤ P ∧ Below w.heap.size w w'
def RowPost2 (l : List Int) (n : Nat) (r : Int) (w : World) (e : Ending) (w' : World) : Prop := ∃ P, e = .returned (.tuple #[.slice (some ⟨P, 0, none⟩) n n, .int .i64 r]) ∧ BlkB w' P (partA l n n) 24 ∧ w.heap.size ≤ P ∧ Below w.heap.size w w'
set_option maxRecDepth 20000 in
set_option maxHeartbeats 1000000 in
theorem aDivide_any (t : List UInt8) (A : Option Addr) (n c : Nat) (ws : List (List UInt8)) (w : World) (hp : Env w) (hs : Strs w w.heap.size A n ws) (ht : t.length ≤ 1000) (hl : ∀ x ∈ ws, x.length ≤ 1000) (hn0 : 0 < n) (hn : n ≤ 1000) (htc : t = txtL (val t)) (h0 : 0 ≤ val t) (hw0 : ∀ x ∈ ws, 0 ≤ val x) (hS : 0 < sumV ws) :
    Calls Tryz.prog 169 #[S t, .slice A n c] w (RowPost (posL (val t) (ws.map val)) n w) := by
  have HNG := Lib.hid (aNegative_any t (by omega))
  rw [show decide (val t < 0) = false by simpa using h0] at HNG
  have HPS := Lib.hid (fun W (hb : Below w.heap.size w W) => positive_any t A n c ws W (hp.here hb) (hs.here hb) ht hl hn0 hn htc h0 hw0 hS)
  have HPO := Lib.hid (show ∀ e w', RowPost (posL (val t) (ws.map val)) n w e w' = ∃ P, e = .returned (.slice (some ⟨P, 0, none⟩) n n) ∧ BlkB w' P (partA (posL (val t) (ws.map val)) n n) 24 ∧ w.heap.size ≤ P ∧ Below w.heap.size w w' from fun _ _ => rfl)
  generalize RowPost (posL (val t) (ws.map val)) n w = post at *
  have H := Lib.hid (Kp.start hp)
  generalize posL (val t) (ws.map val) = ps at *
  clear hp hs ht hl hn0 hn htc h0 hw0 hS
  unfold S at *
  go_enter Tryz.func169, Tryz.ntmps169
  go_wp2_with fail
  refine (HNG.out _ H.out.pw).mono ?_
  rintro e w1 ⟨rfl, hb⟩
  replace H := Lib.hid (H.out.here hb)
  clear hb
  go_wp2_with fail
  refine (HPS.out _ H.out.bl).mono ?_
  rintro e w2 ⟨P, rfl, hB, hP, hb⟩
  have HB := Lib.hid hB
  clear hB
  go_wp2_with fail
  first | go_ret | skip
  rw [HPO.out]
  exact ⟨P, rfl, HB.out, by have := H.out.bl.size; omega, (H.out.here hb).bl⟩
set_option maxRecDepth 20000 in
set_option maxHeartbeats 1000000 in
theorem aSplit_ok (t : List UInt8) (A : Option Addr) (n c : Nat) (ws : List (List UInt8)) (w : World) (hp : Env w) (hs : Strs w w.heap.size A n ws) (ht : t.length ≤ 1000) (hl : ∀ x ∈ ws, x.length ≤ 1000) (hn0 : 0 < n) (hn : n ≤ 1000) (htc : t = txtL (val t)) (h0 : 0 ≤ val t) (hw0 : ∀ x ∈ ws, 0 ≤ val x) (hS : 0 < sumV ws) (hc : splitC t ws = 0) :
    Calls Tryz.prog 125 #[S t, .slice A n c] w (RowPost2 (posL (val t) (ws.map val)) n 0 w) := by
  have HCK := Lib.hid (aCheck_any t A n c ws w hp hs (by omega) (fun x hx => by have := hl x hx; omega) (by omega))
  rw [hc] at HCK
  have HPS := Lib.hid (fun W (hb : Below w.heap.size w W) => aDivide_any t A n c ws W (hp.here hb) (hs.here hb) ht hl hn0 hn htc h0 hw0 hS)
  have HPO := Lib.hid (show ∀ e w', RowPost2 (posL (val t) (ws.map val)) n 0 w e w' = ∃ P, e = .returned (.tuple #[.slice (some ⟨P, 0, none⟩) n n, .int .i64 0]) ∧ BlkB w' P (partA (posL (val t) (ws.map val)) n n) 24 ∧ w.heap.size ≤ P ∧ Below w.heap.size w w' from fun _ _ => rfl)
  generalize RowPost2 (posL (val t) (ws.map val)) n 0 w = post at *
  have H := Lib.hid (Kp.start hp)
  generalize posL (val t) (ws.map val) = ps at *
  clear hp hs ht hl hn0 hn htc h0 hw0 hS hc
  unfold S at *
  go_enter Tryz.func125, Tryz.ntmps125
  go_wp2_with fail
  refine HCK.out.mono ?_
  rintro e w1 ⟨rfl, hb⟩
  replace H := Lib.hid (H.out.here hb)
  clear hb
  go_wp2_with fail
  refine (HPS.out _ H.out.bl).mono ?_
  rintro e w2 ⟨P, rfl, hB, hP, hb⟩
  have HB := Lib.hid hB
  clear hB
  go_wp2_with fail
  first | go_ret2 | skip
  rw [HPO.out]
  exact ⟨P, rfl, HB.out, by have := H.out.bl.size; omega, (H.out.here hb).bl⟩
set_option maxRecDepth 20000 in
set_option maxHeartbeats 1000000 in
theorem aSplit_no (t : List UInt8) (A : Option Addr) (n c : Nat) (ws : List (List UInt8)) (w : World) (hp : Env w) (hs : Strs w w.heap.size A n ws) (ht : t.length ≤ 1000) (hl : ∀ x ∈ ws, x.length ≤ 1000) (hn : n ≤ 1000000) (hc : splitC t ws ≠ 0) :
    Calls Tryz.prog 125 #[S t, .slice A n c] w fun e w' => e = .returned (.tuple #[.slice none 0 0, .int .i64 (splitC t ws)]) ∧ Below w.heap.size w w' := by
  have HCK := Lib.hid (aCheck_any t A n c ws w hp hs (by omega) (fun x hx => by have := hl x hx; omega) (by omega))
  generalize splitC t ws = r at *
  have hr : (r != 0) = true := by simpa using hc
  clear hp hs ht hl hn hc
  unfold S at *
  go_enter Tryz.func125, Tryz.ntmps125
  go_wp2_with fail
  refine HCK.out.mono ?_
  rintro e w1 ⟨rfl, hb⟩
  go_wp2_with fail
  first | go_ret2 | skip
  exact ⟨rfl, hb⟩
end Go.Proofs.YtpnncoinlopndaaGreatDoor

namespace Go.Proofs.YtpnncoinlopndaaGreatDoor
open Go.RowKit Go.Shelf
structure Mp where
  cause : List UInt8
  day : Int
  inst : List UInt8
  other : List UInt8
  ratio : Fr
  share : Fr
  price : Fr
  keep : Bool
deriving DecidableEq
def mpC (m : Mp) : Int :=
  if !(nameB m.cause && nameB m.inst && nameB m.other) then 23 else if !dayB m.day then 13 else if ¬ (m.ratio.ok ∧ m.share.ok ∧ m.price.ok) then 1
  else if m.ratio.rat ≤ 0 ∨ m.share.rat < 0 ∨ 1 < m.share.rat ∨ m.price.rat < 0 then 2 else if m.keep = true ∧ m.other = m.inst then 18 else if m.keep = false ∧ m.share.rat ≠ 1 then 9 else 0
structure Mp.Ok (m : Mp) : Prop where
  cause : nameB m.cause = true
  inst : nameB m.inst = true
  other : nameB m.other = true
  day : dayB m.day = true
  ratio : m.ratio.ok
  share : m.share.ok
  price : m.price.ok
  r0 : 0 < m.ratio.rat
  s0 : 0 ≤ m.share.rat
  s1 : m.share.rat ≤ 1
  p0 : 0 ≤ m.price.rat
  keep : m.keep = true → m.other ≠ m.inst
  all : m.keep = false → m.share.rat = 1
theorem mpC_ok (m : Mp) : mpC m = 0 ↔ m.Ok := by
  unfold mpC
  constructor
  · intro h
    split at h
    · cases h
    rename_i h1
    split at h
    · cases h
    rename_i h2
    split at h
    · cases h
    rename_i h3
    split at h
    · cases h
    rename_i h4
    split at h
    · cases h
    rename_i h5
    split at h
    · cases h
    rename_i h6
    simp only [Bool.not_eq_true', Bool.not_eq_false, Bool.and_eq_true] at h1 h2
    have h3 := Classical.not_not.1 h3
    simp only [not_or, Rat.not_le, Rat.not_lt] at h4
    exact ⟨h1.1.1, h1.1.2, h1.2, h2, h3.1, h3.2.1, h3.2.2, h4.1, h4.2.1, h4.2.2.1, h4.2.2.2, fun a b => h5 ⟨a, b⟩, fun a => Classical.not_not.1 (fun b => h6 ⟨a, b⟩)⟩
  · intro h
    rw [if_neg (by simp [h.cause, h.inst, h.other]), if_neg (by simp [h.day]), if_neg (by simp [h.ratio, h.share, h.price]), if_neg, if_neg, if_neg]
    · exact fun a => a.2 (h.all a.1)
    · exact fun a => h.keep a.1 a.2
    · simp only [not_or, Rat.not_le, Rat.not_lt]
      exact ⟨h.r0, h.s0, h.s1, h.p0⟩
def divS (t : Int) (ws : List Int) : List Int := if ws.sum = 0 then ws.map (fun _ => 0) else posL t ws
theorem divS_length (t : Int) (ws : List Int) : (divS t ws).length = ws.length := by
  unfold divS
  split
  · simp
  · exact posL_length t ws
theorem fdiv_le_of {t w S : Int} (hS : 0 < S) (hw : 0 ≤ w) (ht : t ≤ S) : (t * w).fdiv S ≤ w ∧ (0 < (t * w).fmod S → (t * w).fdiv S + 1 ≤ w) := by
  have h1 := Int.mul_fdiv_add_fmod (t * w) S
  have h2 := Int.fmod_nonneg_of_pos (t * w) hS
  have h3 : t * w ≤ S * w := Int.mul_le_mul_of_nonneg_right ht hw
  generalize (t * w).fdiv S = d at *
  generalize (t * w).fmod S = r at *
  constructor
  · have : S * d ≤ S * w := by omega
    exact Int.le_of_mul_le_mul_left this hS
  · intro hr
    have : S * d < S * w := by omega
    have := Int.lt_of_mul_lt_mul_left this (Int.le_of_lt hS)
    omega
theorem posL_bounds {t : Int} {ws : List Int} (ht : 0 ≤ t) (hw : ∀ w ∈ ws, 0 ≤ w) (hS : 0 < ws.sum) {i : Nat} {x w : Int} (hi : (posL t ws)[i]? = some x) (hwi : ws[i]? = some w) :
    0 ≤ x ∧ (t ≤ ws.sum → x ≤ w) := by
  obtain ⟨hlt, e⟩ := List.getElem?_eq_some_iff.1 hwi
  have hw0 : 0 ≤ w := hw w (List.mem_of_getElem? hwi)
  rw [posL_get t ws i hlt, e] at hi
  have h0 : 0 ≤ (t * w).fdiv ws.sum := Int.fdiv_nonneg (Int.mul_nonneg ht hw0) (Int.le_of_lt hS)
  injection hi with hi
  by_cases hu : i ∈ upL t ws
  · rw [if_pos hu] at hi
    refine ⟨by omega, fun hts => ?_⟩
    have hr := up_pos t hS hu
    have hr2 : (restL t ws).getD i 0 = (t * w).fmod ws.sum := by
      unfold restL
      rw [List.getD_eq_getElem?_getD, List.getElem?_map, hwi]
      rfl
    rw [hr2] at hr
    have := (fdiv_le_of hS hw0 hts).2 hr
    omega
  · rw [if_neg hu] at hi
    exact ⟨by omega, fun hts => by have := (fdiv_le_of hS hw0 hts).1; omega⟩
theorem divS_bounds {t : Int} {ws : List Int} (ht : 0 ≤ t) (hw : ∀ w ∈ ws, 0 ≤ w) {i : Nat} {x w : Int} (hi : (divS t ws)[i]? = some x) (hwi : ws[i]? = some w) :
    0 ≤ x ∧ (t ≤ ws.sum → x ≤ w) := by
  unfold divS at hi
  split at hi
  · rename_i h0
    rw [List.getElem?_map, hwi] at hi
    have hi : (0 : Int) = x := Option.some.inj hi
    have := hw w (List.mem_of_getElem? hwi)
    exact ⟨by omega, fun _ => by omega⟩
  · rename_i h0
    have hs := sum_nonneg_ hw
    exact posL_bounds ht hw (by omega) hi hwi
theorem divS_sum {t : Int} {ws : List Int} (hw : ∀ w ∈ ws, 0 ≤ w) (h : 0 < ws.sum ∨ t = 0) : (divS t ws).sum = t := by
  unfold divS
  split
  · rename_i h0
    rcases h with h | h
    · omega
    · subst h
      generalize ws = l
      induction l with
      | nil => rfl
      | cons a l ih => simpa using ih
  · rename_i h0
    have hs := sum_nonneg_ hw
    exact sum_posL t (by omega)
theorem divS_nonneg {t : Int} {ws : List Int} (ht : 0 ≤ t) (hw : ∀ w ∈ ws, 0 ≤ w) : ∀ x ∈ divS t ws, 0 ≤ x := by
  intro x hx
  obtain ⟨i, hi⟩ := List.getElem?_of_mem hx
  have hlt := (List.getElem?_eq_some_iff.1 hi).1
  rw [divS_length] at hlt
  exact (divS_bounds ht hw hi (List.getElem?_eq_getElem hlt)).1
def shrL (t p a : Int) : Int := rnd (Rat.divInt (t * p) a)
structure Plan where
  exact : Rat
  parts : Int
  part : Rat
  moved : Int
  taken : Int
  cash : Int
  n : List Int
  m : List Int
  f : List Int
  p : List Int
def planL (old : List Lot) (m : Mp) : Plan :=
  let qs := old.map fun x => val x.q
  let cs := old.map fun x => val x.c
  let ex : Rat := ((qs.sum : Int) : Rat) * m.ratio.rat
  let moved := rnd (m.share.rat * ((cs.sum : Int) : Rat))
  let part := ex - ((flo ex : Int) : Rat)
  let taken := if part = 0 then 0 else if flo ex = 0 then moved else shrL moved (flr ex) ex.num
  let cash := rnd (part * m.price.rat)
  { exact := ex, parts := flo ex, part := part, moved := moved, taken := taken, cash := cash, n := divS (flo ex) qs, m := divS moved cs, f := divS taken (divS moved cs), p := divS cash qs }
theorem rat_eq_div (q : Rat) : q = Rat.divInt q.num q.den := (Rat.num_divInt_den q).symm
theorem sub_flo (q : Rat) : q - ((flo q : Int) : Rat) = Rat.divInt (flr q) q.den := by
  have hd : (q.den : Int) ≠ 0 := by have := q.den_nz; omega
  have h := flo_flr q
  rw [Int.mul_comm] at h
  have e : ((flo q : Int) : Rat) = Rat.divInt (flo q) 1 := (divInt_one (flo q)).symm
  rw [e]
  conv => lhs; lhs; rw [rat_eq_div q]
  rw [Rat.divInt_sub_divInt _ _ hd (by omega)]
  congr 1
  · omega
  · omega
theorem flo_nonneg {q : Rat} (h : 0 ≤ q) : 0 ≤ flo q := Int.fdiv_nonneg (Rat.num_nonneg.2 h) (by omega)
theorem part_nonneg (q : Rat) : 0 ≤ q - ((flo q : Int) : Rat) := by
  rw [sub_flo, ← Rat.num_nonneg, Rat.num_divInt]
  obtain ⟨h1, h2⟩ := flr_bounds q
  have hd : (0 : Int) < q.den := by omega
  rw [Int.sign_eq_one_of_pos hd, Int.one_mul]
  exact Int.ediv_nonneg h1 (by omega)
theorem rnd_bounds (q : Rat) : flo q ≤ rnd q ∧ (rnd q = flo q ∨ (rnd q = flo q + 1 ∧ flr q ≠ 0)) := by
  unfold rnd
  split
  · rename_i h
    have := flr_bounds q
    exact ⟨by omega, .inr ⟨rfl, by omega⟩⟩
  · exact ⟨by omega, .inl rfl⟩
theorem rnd_nonneg {q : Rat} (h : 0 ≤ q) : 0 ≤ rnd q := by
  have := flo_nonneg h
  have := (rnd_bounds q).1
  omega
theorem rnd_le {n d k : Int} (hd : 0 < d) (h : n ≤ k * d) : rnd (Rat.divInt n d) ≤ k := by
  have hf := fdiv_flo n d (by omega)
  have h1 := Int.mul_fdiv_add_fmod n d
  have h2 := Int.fmod_nonneg_of_pos n hd
  obtain ⟨h3, h4⟩ := rnd_bounds (Rat.divInt n d)
  have hle : n.fdiv d ≤ k := by
    have : d * n.fdiv d ≤ d * k := by rw [Int.mul_comm d k]; omega
    exact Int.le_of_mul_le_mul_left this hd
  rcases h4 with h4 | ⟨h4, h5⟩
  · omega
  · rcases Int.lt_or_eq_of_le hle with h6 | h6
    · omega
    · -- then n is k * d, and nothing remains
      exfalso
      have hn : n = k * d := by
        rw [h6, Int.mul_comm d k] at h1
        omega
      apply h5
      subst hn
      have e : Rat.divInt (k * d) d = ((k : Int) : Rat) := by
        rw [← divInt_one k, Rat.divInt_eq_divInt_iff (by omega) (by omega)]
        omega
      rw [e]
      unfold flr
      simp
theorem rnd_int (k : Int) : rnd ((k : Int) : Rat) = k := by
  have h : flr ((k : Int) : Rat) = 0 := by unfold flr; simp
  have h2 : flo ((k : Int) : Rat) = k := by unfold flo; simp
  unfold rnd
  rw [h, h2, if_neg]
  simp
structure PlanOk (old : List Lot) (m : Mp) (x : Plan) : Prop where
  ex : x.exact = ((((old.map fun y => val y.q).sum : Int)) : Rat) * m.ratio.rat
  exact0 : 0 ≤ x.exact
  parts0 : 0 ≤ x.parts
  part0 : 0 ≤ x.part
  moved0 : 0 ≤ x.moved
  moved1 : x.moved ≤ (old.map fun y => val y.c).sum
  all : m.keep = false → x.moved = (old.map fun y => val y.c).sum
  taken0 : 0 ≤ x.taken
  taken1 : x.taken ≤ x.moved
  whole : x.part = 0 → x.taken = 0
  none : x.part ≠ 0 → x.parts = 0 → x.taken = x.moved
  cash0 : 0 ≤ x.cash
  cash1 : x.part = 0 → x.cash = 0
theorem old_nonneg {old : List Lot} (h : ∀ y ∈ old, y.Ok) : (∀ z ∈ old.map (fun y => val y.q), 0 ≤ z) ∧ ∀ z ∈ old.map (fun y => val y.c), 0 ≤ z := by
  constructor
  · intro z hz
    obtain ⟨y, hy, rfl⟩ := List.mem_map.1 hz
    have := (h y hy).q0
    omega
  · intro z hz
    obtain ⟨y, hy, rfl⟩ := List.mem_map.1 hz
    exact (h y hy).c0
theorem rat_int_nonneg {k : Int} (h : 0 ≤ k) : (0 : Rat) ≤ (k : Rat) := by exact_mod_cast h
theorem rnd_mul_le {s : Rat} {k : Int} (hs : s ≤ 1) (hk : 0 ≤ k) : rnd (s * (k : Rat)) ≤ k := by
  have hd : (0 : Int) < s.den := by have := s.den_pos; omega
  have e : s * (k : Rat) = Rat.divInt (s.num * k) s.den := by
    conv => lhs; rw [rat_eq_div s, ← divInt_one k]
    rw [Rat.divInt_mul_divInt, Int.mul_one]
  rw [e]
  refine rnd_le hd ?_
  have hn : s.num ≤ s.den := by
    have h1 : s = Rat.divInt s.num s.den := rat_eq_div s
    have h2 : ¬ (1 : Rat) < s := Rat.not_lt.2 hs
    have h3 : (1 : Rat) = Rat.divInt 1 1 := rfl
    rw [h1, h3, lt_divInt _ _ (by omega) hd] at h2
    omega
  rw [Int.mul_comm k]
  exact Int.mul_le_mul_of_nonneg_right hn hk
theorem planL_ok {old : List Lot} {m : Mp} (h : ∀ y ∈ old, y.Ok) (hm : m.Ok) : PlanOk old m (planL old m) := by
  obtain ⟨hq, hc⟩ := old_nonneg h
  have hqs := sum_nonneg_ hq
  have hcs := sum_nonneg_ hc
  have hex : (0 : Rat) ≤ ((((old.map fun y => val y.q).sum : Int)) : Rat) * m.ratio.rat := Rat.mul_nonneg (rat_int_nonneg hqs) (Rat.le_of_lt hm.r0)
  have hmv : (0 : Rat) ≤ m.share.rat * ((((old.map fun y => val y.c).sum : Int)) : Rat) := Rat.mul_nonneg hm.s0 (rat_int_nonneg hcs)
  have hm0 := rnd_nonneg hmv
  have hpt := part_nonneg (((((old.map fun y => val y.q).sum : Int)) : Rat) * m.ratio.rat)
  have hshr : ∀ mv : Int, 0 ≤ mv → ∀ ex : Rat, 0 ≤ ex → flo ex ≠ 0 → 0 ≤ shrL mv (flr ex) ex.num ∧ shrL mv (flr ex) ex.num ≤ mv := by
    intro mv hmv ex hex hne
    have h1 := flo_flr ex
    obtain ⟨h2, h3⟩ := flr_bounds ex
    have h4 := flo_nonneg hex
    have h5 : (0 : Int) ≤ ex.den * flo ex := Int.mul_nonneg (by omega) h4
    have h6 : (0 : Int) < ex.den * flo ex := Int.mul_pos (by omega) (by omega)
    have hn : 0 < ex.num := by omega
    have hle : flr ex ≤ ex.num := by omega
    unfold shrL
    constructor
    · refine rnd_nonneg ?_
      rw [← Rat.num_nonneg, Rat.num_divInt, Int.sign_eq_one_of_pos hn, Int.one_mul]
      exact Int.ediv_nonneg (Int.mul_nonneg hmv h2) (by omega)
    · exact rnd_le hn (Int.mul_le_mul_of_nonneg_left hle hmv)
  refine ⟨rfl, hex, flo_nonneg hex, hpt, hm0, rnd_mul_le hm.s1 hcs, ?_, ?_, ?_, ?_, ?_, rnd_nonneg (Rat.mul_nonneg hpt hm.p0), ?_⟩
  · intro hk
    show rnd (m.share.rat * _) = _
    rw [hm.all hk, Rat.one_mul, rnd_int]
  · show 0 ≤ ite _ _ _
    split
    · omega
    · split
      · exact hm0
      · rename_i h1 h2
        exact (hshr _ hm0 _ hex h2).1
  · show ite _ _ _ ≤ _
    split
    · exact hm0
    · split
      · exact Int.le_refl _
      · rename_i h1 h2
        exact (hshr _ hm0 _ hex h2).2
  · intro hp
    exact if_pos hp
  · intro hp h0
    exact (if_neg hp).trans (if_pos h0)
  · intro hp
    show rnd (_ * _) = 0
    have hp' : (planL old m).part = 0 := hp
    rw [show ((((old.map fun y => val y.q).sum : Int)) : Rat) * m.ratio.rat - ((flo (((((old.map fun y => val y.q).sum : Int)) : Rat) * m.ratio.rat) : Int) : Rat) = 0 from hp', Rat.zero_mul]
    exact rnd_int 0
end Go.Proofs.YtpnncoinlopndaaGreatDoor

namespace Go.Proofs.YtpnncoinlopndaaGreatDoor
open Go.RowKit Go.Shelf
set_option maxRecDepth 20000 in
theorem mOne_any : Gives 46 #[] (FrV (frOf 1)) := by
  intro w hp
  have H := Lib.hid ((Kp.start hp).new w.heap.size rfl #[.string ⟨#[]⟩, .string ⟨#[]⟩] 26)
  have HOF := Lib.hid (fun W hp => fOf_any [49] W hp (by simp))
  rw [one_val, show ((1 : Int) : Rat) = 1 from rfl] at HOF
  generalize frOf 1 = f at *
  unfold FrV S at *
  clear hp
  go_enter Tryz.func46, Tryz.ntmps46
  go_wp2_with fail
  generalize w.alloc (.cells #[.string ⟨#[]⟩, .string ⟨#[]⟩] 26) = W at *
  refine (HOF.out _ H.out.po).mono ?_
  rintro e w1 ⟨rfl, hb⟩
  try unfold FrV S
  replace H := Lib.hid (H.out.here hb)
  have c0 : w1.cell? ⟨w.heap.size, 0, none⟩ = some (.string ⟨#[]⟩) := H.out.c 0 0 rfl rfl
  have c1 : w1.cell? ⟨w.heap.size, 1, none⟩ = some (.string ⟨#[]⟩) := H.out.c 0 1 rfl rfl
  have f0 := H.out.f 0 0 rfl; have f1 := H.out.f 0 1 rfl
  go_wp2_with fail
  refine bodyPost_ret (v := .agg #[.string ⟨f.n.toArray⟩, .string ⟨f.d.toArray⟩]) (by simp [results, Tryz.results46, go_sem, c0, c1]) rfl ?_
  exact ⟨rfl, ((H.out.set 0 0 rfl _).set 0 1 rfl _).bl⟩
set_option maxRecDepth 20000 in
theorem mSign_any (f : Fr) (hf : f.Sz 20000) : Gives 44 #[FrV f] (.int .i64 (cmpR f.rat 0)) := by
  intro w hp
  have H := Lib.hid ((Kp.start hp).new w.heap.size rfl #[.string ⟨f.n.toArray⟩, .string ⟨f.d.toArray⟩] 26)
  have HCM := Lib.hid (fun W hp => fCompare_any f Fr.zero W hp hf ⟨by simp [Fr.zero], by simp [Fr.zero]⟩)
  rw [rat_zero] at HCM
  generalize cmpR f.rat 0 = z at *
  have x0 : (w.alloc (.cells #[.string ⟨f.n.toArray⟩, .string ⟨f.d.toArray⟩] 26)).cell? ⟨w.heap.size, 0, none⟩ = some (.string ⟨f.n.toArray⟩) := H.out.c 0 0 rfl rfl
  have x1 : (w.alloc (.cells #[.string ⟨f.n.toArray⟩, .string ⟨f.d.toArray⟩] 26)).cell? ⟨w.heap.size, 1, none⟩ = some (.string ⟨f.d.toArray⟩) := H.out.c 0 1 rfl rfl
  unfold FrV S at *
  unfold Fr.zero at *
  clear hp hf
  go_enter Tryz.func44, Tryz.ntmps44
  go_wp2_with fail
  generalize w.alloc (.cells #[.string ⟨f.n.toArray⟩, .string ⟨f.d.toArray⟩] 26) = W at *
  refine (HCM.out _ H.out.po).mono ?_
  rintro e w1 ⟨rfl, hb⟩
  go_wp2_with fail
  first | go_ret | skip
  exact ⟨rfl, (H.out.here hb).bl⟩
set_option maxRecDepth 20000 in
theorem mRounded_any (f : Fr) (hf : f.Sz 20000) : Gives 73 #[FrV f] (S (txtL (rnd f.rat))) := by
  intro w hp
  have H := Lib.hid ((Kp.start hp).new w.heap.size rfl #[.string ⟨f.n.toArray⟩, .string ⟨f.d.toArray⟩] 26)
  have HRD := Lib.hid (round_any f hf)
  generalize txtL (rnd f.rat) = t at *
  have x0 : (w.alloc (.cells #[.string ⟨f.n.toArray⟩, .string ⟨f.d.toArray⟩] 26)).cell? ⟨w.heap.size, 0, none⟩ = some (.string ⟨f.n.toArray⟩) := H.out.c 0 0 rfl rfl
  have x1 : (w.alloc (.cells #[.string ⟨f.n.toArray⟩, .string ⟨f.d.toArray⟩] 26)).cell? ⟨w.heap.size, 1, none⟩ = some (.string ⟨f.d.toArray⟩) := H.out.c 0 1 rfl rfl
  unfold FrV S at *
  clear hp hf
  go_enter Tryz.func73, Tryz.ntmps73
  go_wp2_with fail
  generalize w.alloc (.cells #[.string ⟨f.n.toArray⟩, .string ⟨f.d.toArray⟩] 26) = W at *
  refine (HRD.out _ H.out.pw).mono ?_
  rintro e w1 ⟨rfl, hb⟩
  go_wp2_with fail
  first | go_ret | skip
  exact ⟨rfl, (H.out.here hb).bl⟩
set_option maxRecDepth 20000 in
set_option maxHeartbeats 1000000 in
theorem mSum_any (A : Option Addr) (n c : Nat) (ws : List (List UInt8)) (w : World) (hp : Env w) (hs : Strs w w.heap.size A n ws) (hl : ∀ x ∈ ws, x.length ≤ 50000) (hn : n ≤ 9999) :
    Calls Tryz.prog 65 #[.slice A n c] w (StrPost (txtL (sumV ws)) w) := by
  have HPO := Lib.hid (show StrPost (txtL (sumV ws)) w = fun e w' => e = .returned (S (txtL (sumV ws))) ∧ Below w.heap.size w w' from rfl)
  generalize StrPost (txtL (sumV ws)) w = post at *
  have HS := Lib.hid hs; have HL := Lib.hid hl
  have H0 := Lib.hid (Kp.start hp)
  have hnw := hs.1
  have HNW := Lib.hid hnw
  clear hs hl hp hnw
  unfold S at *
  go_enter Tryz.func65, Tryz.ntmps65
  go_wp2_with fail
  go_loopw [3, 8] (fun s i wr => ∃ k : Nat, k ≤ n ∧ i = .int .i64 k ∧ s = .string ⟨(txtL (sumV (ws.take k))).toArray⟩ ∧ Hid (Kp w [] wr)) (fun _ i _ => n - (intOf i).toNat)
  case atStart => exact ⟨0, Nat.zero_le _, rfl, rfl, H0⟩
  case round =>
    clear H0
    obtain ⟨k, hk, rfl, rfl, H⟩ := hrel
    by_cases hlt : k < n
    · obtain ⟨b, off, x, rfl, hb, hx, d0⟩ := (HS.out.below H.out.bl).st hlt
      have HA := Lib.hid (Add_any (txtL (sumV (ws.take k))) x wr H.out.po (by have := sumV_take_len HL.out (by rw [← HNW.out]; omega) k; omega) (by have := HL.out x (List.mem_of_getElem? hx); omega))
      rw [val_txtL, ← sumV_take hx] at HA
      clear hx
      unfold S at HA
      go_wp2_with fail
      refine HA.out.mono ?_
      rintro e w1 ⟨rfl, hb1⟩
      try unfold S
      go_wp2_with fail
      go_roundw
      case rel => exact ⟨k + 1, by omega, by go_num, rfl, H.out.here hb1⟩
      case measure => simp [intOf]; omega
    · have HE := Lib.hid (show txtL (sumV (ws.take k)) = txtL (sumV ws) by rw [List.take_of_length_le (by have := HNW.out; omega)])
      rw [HE.out]
      go_wp2_with fail
      first | go_ret | skip
      rw [HPO.out]
      exact ⟨rfl, H.out.bl⟩
theorem partA_zeros (l : List Int) (n : Nat) (hl : ∀ x ∈ l, x = 0) : partA l n 0 = partA l n n := by
  unfold partA
  congr 1
  refine List.map_congr_left fun j hj => ?_
  rw [if_neg (by omega), if_pos (List.mem_range.1 hj)]
  have h0 : l.getD j 0 = 0 := by
    rw [List.getD_eq_getElem?_getD]
    cases h : l[j]? with
    | none => rfl
    | some x => exact hl x (List.mem_of_getElem? h)
  rw [h0]; rfl
set_option maxRecDepth 20000 in
set_option maxHeartbeats 1000000 in
theorem mDivide_any (t : List UInt8) (A : Option Addr) (n c : Nat) (ws : List (List UInt8)) (w : World) (hp : Env w) (hs : Strs w w.heap.size A n ws) (ht : t.length ≤ 1000) (hl : ∀ x ∈ ws, x.length ≤ 1000) (hn : n ≤ 1000) (htc : t = txtL (val t)) (h0 : 0 ≤ val t) (hw0 : ∀ x ∈ ws, 0 ≤ val x) (hwc : ∀ x ∈ ws, canB x = true) :
    Calls Tryz.prog 74 #[S t, .slice A n c] w (RowPost (divS (val t) (ws.map val)) n w) := by
  have HPO := Lib.hid (show RowPost (divS (val t) (ws.map val)) n w = fun e w' => ∃ P, e = .returned (.slice (some ⟨P, 0, none⟩) n n) ∧ BlkB w' P (partA (divS (val t) (ws.map val)) n n) 24 ∧ w.heap.size ≤ P ∧ Below w.heap.size w w' from rfl)
  have HDS := Lib.hid (show divS (val t) (ws.map val) = if (ws.map val).sum = 0 then (ws.map val).map (fun _ => 0) else posL (val t) (ws.map val) from rfl)
  generalize RowPost (divS (val t) (ws.map val)) n w = post at *
  generalize divS (val t) (ws.map val) = ds at *
  have H := Lib.hid (Kp.start hp)
  have hnw := hs.1
  have hany : ws.any (fun x => !canB x || decide (val x < 0)) = false := by
    rw [List.any_eq_false]
    intro x hx
    have h1 := hwc x hx; have h2 := hw0 x hx
    simp [h1]; exact h2
  have hcb : canB t = true := by unfold canB; simpa using htc
  have hs0 : 0 ≤ sumV ws := sum_nonneg_ (l := ws.map val) (fun y hy => by obtain ⟨x, hx, rfl⟩ := List.mem_map.1 hy; exact hw0 x hx)
  by_cases hz : sumV ws = 0
  · have hc : splitC t ws ≠ 0 := by
      unfold splitC
      by_cases h1 : ws = []
      · rw [if_pos h1]; decide
      · rw [if_neg h1, if_neg (by omega), if_neg (by simp [hcb]; simpa using hany), if_pos hz]; decide
    have HSN := Lib.hid (aSplit_no t A n c ws w hp hs ht hl (by omega) hc)
    have hr : (splitC t ws != 0) = true := by simpa using hc
    rw [if_pos (show (ws.map val).sum = 0 from hz)] at HDS
    have hmk := run_make_row' (P := Tryz.prog) 58 24 (.string ⟨#[]⟩) 16 Tryz.underlying58 infoS rfl .i64 .i64 n (by omega) (by omega)
    rw [partA_zero ds, partA_zeros ds n (fun x hx => by rw [HDS.out] at hx; obtain ⟨_, _, rfl⟩ := List.mem_map.1 hx; rfl)] at hmk
    generalize splitC t ws = r at *
    clear hp hs ht hl hn htc h0 hw0 hwc hany hcb hs0 hz hc hnw HDS
    unfold S at *
    go_enter Tryz.func74, Tryz.ntmps74
    go_wp2_with fail
    refine HSN.out.mono ?_
    rintro e w1 ⟨rfl, hb⟩
    replace H := Lib.hid (H.out.here hb)
    clear hb
    go_wp2_with fail
    first | go_ret | skip
    have H2 := H.out.new w1.heap.size rfl (partA ds n n) 24
    rw [HPO.out]
    exact ⟨_, rfl, H2.at_ 0 rfl, H.out.bl.size, H2.bl⟩
  · have hne : ws ≠ [] := fun e => hz (by rw [e]; rfl)
    have hn0 : 0 < n := by
      rcases Nat.eq_zero_or_pos n with h | h
      · exact absurd (List.eq_nil_of_length_eq_zero (by omega)) hne
      · exact h
    have hc : splitC t ws = 0 := by
      unfold splitC
      rw [if_neg hne, if_neg (by omega), if_neg (by simp [hcb]; simpa using hany), if_neg hz]
    have HSO := Lib.hid (aSplit_ok t A n c ws w hp hs ht hl hn0 hn htc h0 hw0 (by omega) hc)
    rw [if_neg (show ¬ (ws.map val).sum = 0 from hz)] at HDS
    rw [← HDS.out] at HSO
    clear hp hs ht hl hn htc h0 hw0 hwc hany hcb hs0 hz hc hnw HDS hne hn0
    unfold S at *
    go_enter Tryz.func74, Tryz.ntmps74
    go_wp2_with fail
    refine HSO.out.mono ?_
    rintro e w1 ⟨P, rfl, hB, hP, hb⟩
    have HB := Lib.hid hB
    clear hB
    go_wp2_with fail
    first | go_ret | skip
    rw [HPO.out]
    exact ⟨P, rfl, HB.out, hP, (H.out.here hb).bl⟩
end Go.Proofs.YtpnncoinlopndaaGreatDoor

namespace Go.Proofs.YtpnncoinlopndaaGreatDoor
open Go.RowKit Go.Shelf
attribute [local go_sem ↓] Go.wp_at_zero Go.wp_at_succ
theorem frOf_int (k : Int) : frOf (k : Rat) = ⟨txtL k, []⟩ := by
  unfold frOf
  rw [Rat.num_intCast, Rat.den_intCast, if_pos rfl]
theorem flo_len {f : Fr} {L : Nat} (h : f.Sz L) (hL : 1 ≤ L) : (txtL (flo f.rat)).length ≤ L + 2 := by
  have h1 := sz_rb h hL
  have h2 := flo_le f.rat
  have h3 : 10 ^ L + 1 < 10 ^ (L + 1) := by rw [Nat.pow_succ]; have : 10 ^ 1 ≤ 10 ^ L := Nat.pow_le_pow_right (by omega) hL; omega
  exact txtL_length (L := L + 1) (by have := h1.1; omega)
theorem Kp.fr {w W : World} {bs : List (Nat × Array Value × TypeId)} {p i : Nat} {f : Fr} {T : TypeId} (h : Kp w bs W) (hb : bs[i]? = some (p, #[.string ⟨f.n.toArray⟩, .string ⟨f.d.toArray⟩], T)) :
    W.cell? ⟨p, 0, none⟩ = some (.string ⟨f.n.toArray⟩) ∧ W.cell? ⟨p, 1, none⟩ = some (.string ⟨f.d.toArray⟩) := ⟨h.c i 0 hb rfl, h.c i 1 hb rfl⟩
set_option maxRecDepth 20000 in
set_option maxHeartbeats 2000000 in
theorem mWhole_any (f : Fr) (hf : f.Sz 5000) : Gives 59 #[FrV f] (.tuple #[S (txtL (flo f.rat)), FrV (frOf (f.rat - ((flo f.rat : Int) : Rat)))]) := by
  intro w hp
  have H := Lib.hid (((Kp.start hp).new w.heap.size rfl #[.string ⟨f.n.toArray⟩, .string ⟨f.d.toArray⟩] 26).new (w.heap.size + 1) (by simp) #[.string ⟨#[]⟩, .string ⟨#[]⟩] 26)
  have hfl := flo_len hf (by omega)
  have HFL := Lib.hid (floor_any f (hf.more (by omega)))
  have HOF := Lib.hid (fun W hp => fOf_any (txtL (flo f.rat)) W hp (by omega))
  rw [val_txtL] at HOF
  have HSU := Lib.hid (fun W hp => fSub_any f (frOf ((flo f.rat : Int) : Rat)) W hp (hf.more (by omega)) (by rw [frOf_int]; exact ⟨by show (txtL _).length ≤ _; omega, by simp⟩))
  rw [rat_frOf] at HSU
  generalize txtL (flo f.rat) = t at *
  generalize frOf (f.rat - ((flo f.rat : Int) : Rat)) = res at *
  generalize frOf ((flo f.rat : Int) : Rat) = g at *
  have x0 := H.out.c 1 0 rfl rfl; have x1 := H.out.c 1 1 rfl rfl
  unfold FrV at *
  unfold S at *
  clear hp hf hfl
  go_enter Tryz.func59, Tryz.ntmps59
  go_wp2_with fail
  generalize (w.alloc (.cells #[.string ⟨f.n.toArray⟩, .string ⟨f.d.toArray⟩] 26)).alloc (.cells #[.string ⟨#[]⟩, .string ⟨#[]⟩] 26) = W at *
  refine (HFL.out _ H.out.pw).mono ?_
  rintro e w1 ⟨rfl, hb⟩
  replace H := Lib.hid (H.out.here hb)
  clear hb x0 x1
  have x0 := H.out.c 1 0 rfl rfl; have x1 := H.out.c 1 1 rfl rfl
  go_wp2_with fail
  go_region_held3 (fun w' => w'.cell? ⟨w.heap.size, 0, none⟩ = some (.string ⟨f.n.toArray⟩) ∧ w'.cell? ⟨w.heap.size, 1, none⟩ = some (.string ⟨f.d.toArray⟩))
    (first
      | exact k2
      | exact k3
      | exact k4 _ _
      | go_keep)
    (first
      | (go_at_call 60; refine (HOF.out _ H.out.drew.po).mono ?_; rintro e w2 ⟨rfl, hb2⟩; unfold FrV S; have hz : Below w1.heap.size w1 w2 := (Below.refl _ w1).drew.trans hb2; have k2 := (H.out.here hz).fr (f := f) (i := 1) rfl)
      | (go_at_call 102; refine (HSU.out _ (H.out.here hz).po).mono ?_; rintro e w3 ⟨rfl, hb3⟩; unfold FrV S; have hz2 : Below w1.heap.size w1 w3 := hz.trans (hb3.mono hz.size); have k3 := (H.out.here hz2).fr (f := f) (i := 1) rfl; have n0 := (H.out.here hz2).c 0 0 rfl rfl; have n1 := (H.out.here hz2).c 0 1 rfl rfl; have g0 := (H.out.here hz2).f 0 0 rfl; have g1 := (H.out.here hz2).f 0 1 rfl; have k4 := (fun u v => (((H.out.here hz2).set 0 0 rfl u).set 0 1 rfl v).fr (f := f) (i := 1) rfl)))
  all_goals
    go_wp2_with fail
    refine bodyPost_ret (v := .tuple #[.string ⟨t.toArray⟩, .agg #[.string ⟨res.n.toArray⟩, .string ⟨res.d.toArray⟩]]) (by simp [results, Tryz.results59, go_sem, n0, n1]) rfl ?_
    exact ⟨rfl, (((H.out.here hz2).set 0 0 rfl _).set 0 1 rfl _).bl⟩
end Go.Proofs.YtpnncoinlopndaaGreatDoor

namespace Go.Proofs.YtpnncoinlopndaaGreatDoor
open Go.RowKit Go.Shelf
theorem rnd_abs (q : Rat) : (rnd q).natAbs ≤ q.num.natAbs + 2 := by
  have h1 := flo_le q
  rcases (rnd_bounds q).2 with h | ⟨h, _⟩ <;> omega
set_option maxRecDepth 20000 in
set_option maxHeartbeats 2000000 in
theorem aShare_any {K : Nat} (hK : K ≤ 4000) (hK1 : 1 ≤ K) (t p a : Int) (ht : t.natAbs < 10 ^ K) (hpp : p.natAbs < 10 ^ K) (ha : a.natAbs < 10 ^ K) (h0 : 0 ≤ p) (h1 : p ≤ a) (h2 : a ≠ 0) :
    Gives 128 #[S (txtL t), S (txtL p), S (txtL a)] (.tuple #[S (txtL (shrL t p a)), S (txtL (t - shrL t p a)), .int .i64 0]) := by
  intro w hp
  have H := Lib.hid (Kp.start hp)
  have lt := txtL_length ht; have lp := txtL_length hpp; have la := txtL_length ha
  have HCT := Lib.hid (iCheck_any (txtL t) (by omega)); have HCP := Lib.hid (iCheck_any (txtL p) (by omega)); have HCA := Lib.hid (iCheck_any (txtL a) (by omega))
  rw [if_pos (by rw [val_txtL])] at HCT HCP HCA
  have HNA := Lib.hid (aNegative_any (txtL a) (by omega)); have HNP := Lib.hid (aNegative_any (txtL p) (by omega))
  rw [val_txtL, show decide (a < 0) = false by simp; omega] at HNA
  rw [val_txtL, show decide (p < 0) = false by simp; omega] at HNP
  have HCM := Lib.hid (fun W => Compare_any (txtL p) (txtL a) W (by omega) (by omega))
  rw [val_txtL, val_txtL] at HCM
  have hgt : decide (0 < sgnI (p - a)) = false := by unfold sgnI; simp; split <;> (try split) <;> omega
  have HMU := Lib.hid (fun W hp => Mul_any (txtL t) (txtL p) W hp (by omega) (by omega))
  rw [val_txtL, val_txtL] at HMU
  have hm := mul_lt_pow ht hpp
  have lm := txtL_length hm
  have HNW := Lib.hid (new_any ⟨txtL (t * p), txtL a⟩ ⟨by show (txtL _).length ≤ _; omega, by show (txtL _).length ≤ _; omega⟩)
  have hnl : nwL ⟨txtL (t * p), txtL a⟩ = (frOf (Rat.divInt (t * p) a), 0) := by unfold nwL; simp only [val_txtL]; rw [if_neg h2]
  rw [hnl] at HNW
  have hrb : RB (K + K) (Rat.divInt (t * p) a) := RB.divInt hm (Nat.lt_of_lt_of_le ha (Nat.pow_le_pow_right (by omega) (by omega))) h2
  have hsz := frOf_sz hrb
  have HRD := Lib.hid (round_any (frOf (Rat.divInt (t * p) a)) (hsz.more (by omega)))
  rw [rat_frOf, show rnd (Rat.divInt (t * p) a) = shrL t p a from rfl] at HRD
  have hsl : (shrL t p a).natAbs < 10 ^ (K + K + 1) := by
    have h1 := rnd_abs (Rat.divInt (t * p) a)
    have h3 := hrb.1
    have h4 : 10 ^ (K + K) + 2 < 10 ^ (K + K + 1) := by rw [Nat.pow_succ]; have : 10 ^ 1 ≤ 10 ^ (K + K) := Nat.pow_le_pow_right (by omega) (by omega); omega
    show (rnd _).natAbs < _
    omega
  have ls := txtL_length hsl
  have HSB := Lib.hid (fun W hp => Sub_any (txtL t) (txtL (shrL t p a)) W hp (by omega) (by omega))
  rw [val_txtL, val_txtL] at HSB
  have hn : (txtL a == []) = false := by
    rw [Bool.eq_false_iff]
    intro h
    exact h2 (txtL_nil.1 (eq_of_beq h))
  have hn2 : (txtL a).isEmpty = false := by rw [← hn]; cases txtL a <;> rfl
  clear ht hpp ha h0 h1 h2 lt lp la hm lm hnl hrb hsz hsl ls hK hK1 hp
  generalize frOf (Rat.divInt (t * p) a) = q at *
  generalize txtL (shrL t p a) = ts at *
  generalize txtL (t - shrL t p a) = tr at *
  generalize txtL (t * p) = tm at *
  generalize txtL t = tt at *
  generalize txtL p = tp at *
  generalize txtL a = ta at *
  generalize sgnI (p - a) = sg at *
  have HN := Lib.hid hn
  unfold FrV at *
  unfold S at *
  go_enter Tryz.func128, Tryz.ntmps128
  go_wp2_with fail
  refine (HCT.out _ H.out.pw).mono ?_
  rintro e w1 ⟨rfl, hb⟩
  replace H := Lib.hid (H.out.here hb); clear hb
  go_wp2_with fail
  refine (HCP.out _ H.out.pw).mono ?_
  rintro e w2 ⟨rfl, hb⟩
  replace H := Lib.hid (H.out.here hb); clear hb
  go_wp2_with fail
  refine (HCA.out _ H.out.pw).mono ?_
  rintro e w3 ⟨rfl, hb⟩
  replace H := Lib.hid (H.out.here hb); clear hb
  go_wp2_with fail
  refine (HNA.out _ H.out.pw).mono ?_
  rintro e w4 ⟨rfl, hb⟩
  replace H := Lib.hid (H.out.here hb); clear hb
  go_wp2_with fail
  refine (HNP.out _ H.out.pw).mono ?_
  rintro e w5 ⟨rfl, hb⟩
  replace H := Lib.hid (H.out.here hb); clear hb
  go_wp2_with fail
  refine (HCM.out _).mono ?_
  rintro e w6 ⟨rfl, hb⟩
  replace H := Lib.hid (H.out.here hb); clear hb
  go_wp2_with fail
  refine (HMU.out _ H.out.po).mono ?_
  rintro e w7 ⟨rfl, hb⟩
  try unfold S
  replace H := Lib.hid (H.out.here hb); clear hb
  go_wp2_with fail
  refine (HNW.out _ H.out.pw).mono ?_
  rintro e w8 ⟨rfl, hb⟩
  replace H := Lib.hid (H.out.here hb); clear hb
  replace H := Lib.hid (H.out.new w8.heap.size rfl #[.string ⟨q.n.toArray⟩, .string ⟨q.d.toArray⟩] 26)
  have x0 := H.out.c 0 0 rfl rfl; have x1 := H.out.c 0 1 rfl rfl
  go_wp2_with fail
  generalize w8.alloc (.cells #[.string ⟨q.n.toArray⟩, .string ⟨q.d.toArray⟩] 26) = W at *
  refine (HRD.out _ H.out.pw).mono ?_
  rintro e w9 ⟨rfl, hb⟩
  replace H := Lib.hid (H.out.here hb); clear hb x0 x1
  go_wp2_with fail
  refine (HSB.out _ H.out.po).mono ?_
  rintro e w10 ⟨rfl, hb⟩
  try unfold S
  go_wp2_with fail
  refine bodyPost_ret (v := .tuple #[.string ⟨ts.toArray⟩, .string ⟨tr.toArray⟩, .int .i64 0]) (by simp [results, Tryz.results128, go_sem]) rfl ?_
  exact ⟨rfl, (H.out.here hb).bl⟩
end Go.Proofs.YtpnncoinlopndaaGreatDoor

