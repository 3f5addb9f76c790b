/- Merged texts: A0, W0, Lp0, Ig, Sv, CfI, AL1. -/
import Derived.Test.YtpnncoinlopndaaGreatDoorQGTn3
import Derived.Test.YtpnncoinlopndaaGreatDoorBaseqGTn
import Derived.Test.YtpnncoinlopndaaGreatDoorQGTn1
import Derived.Test.YtpnncoinlopndaaGreatDoorQGTn7
namespace Go.Proofs.YtpnncoinlopndaaGreatDoor
open Go.RowKit Go.Shelf
def baseL (t : Int) (ws : List Int) : List Int := ws.map fun w => (t * w).fdiv ws.sum
def restL (t : Int) (ws : List Int) : List Int := ws.map fun w => (t * w).fmod ws.sum
def missL (t : Int) (ws : List Int) : Int := t - (baseL t ws).sum
def befB (rs : List Int) (i k : Nat) : Bool := decide (rs.getD k 0 < rs.getD i 0 ∨ (rs.getD i 0 = rs.getD k 0 ∧ i ≤ k))
def ordL (rs : List Int) : List Nat := (List.range rs.length).mergeSort (befB rs)
def upL (t : Int) (ws : List Int) : List Nat := (ordL (restL t ws)).take (missL t ws).toNat
def posL (t : Int) (ws : List Int) : List Int := (baseL t ws).mapIdx fun i b => if i ∈ upL t ws then b + 1 else b
theorem sum_append_ (l m : List Int) : (l ++ m).sum = l.sum + m.sum := by
  induction l with
  | nil => simp
  | cons a l ih => simp only [List.cons_append, List.sum_cons, ih]; omega
theorem sum_nonneg_ {l : List Int} (h : ∀ x ∈ l, 0 ≤ x) : 0 ≤ l.sum := by
  induction l with
  | nil => simp
  | cons a l ih =>
    have h1 := h a (by simp)
    have h2 := ih (fun x hx => h x (by simp [hx]))
    simp only [List.sum_cons]; omega
theorem le_sum_ {l : List Int} (h : ∀ x ∈ l, 0 ≤ x) {x : Int} (hx : x ∈ l) : x ≤ l.sum := by
  induction l with
  | nil => simp at hx
  | cons a l ih =>
    have h1 := h a (by simp)
    have h2 := sum_nonneg_ (fun x hx => h x (List.mem_cons_of_mem a hx))
    simp only [List.sum_cons]
    rcases List.mem_cons.1 hx with e | hx
    · omega
    · have := ih (fun x hx => h x (by simp [hx])) hx; omega
theorem sum_base_rest' (t S : Int) (ws : List Int) : S * (ws.map fun w => (t * w).fdiv S).sum + (ws.map fun w => (t * w).fmod S).sum = t * ws.sum := by
  induction ws with
  | nil => simp
  | cons a l ih =>
    simp only [List.map_cons, List.sum_cons, Int.mul_add] at ih ⊢
    have := Int.mul_fdiv_add_fmod (t * a) S
    omega
theorem sum_base_rest (t : Int) (ws : List Int) : ws.sum * (baseL t ws).sum + (restL t ws).sum = t * ws.sum := sum_base_rest' t ws.sum ws
theorem sum_rest (t : Int) (ws : List Int) : (restL t ws).sum = ws.sum * missL t ws := by
  have h := sum_base_rest t ws
  unfold missL
  rw [Int.mul_sub, Int.mul_comm ws.sum t]
  omega
theorem rest_bounds (t : Int) {ws : List Int} (hS : 0 < ws.sum) : ∀ r ∈ restL t ws, 0 ≤ r ∧ r < ws.sum := by
  intro r hr
  obtain ⟨w, _, rfl⟩ := List.mem_map.1 hr
  exact ⟨Int.fmod_nonneg_of_pos _ hS, Int.fmod_lt_of_pos _ hS⟩
theorem miss_nonneg (t : Int) {ws : List Int} (hS : 0 < ws.sum) : 0 ≤ missL t ws := by
  have h1 := sum_rest t ws
  have h2 := sum_nonneg_ (fun r hr => (rest_bounds t hS r hr).1)
  rw [h1] at h2
  rcases Int.lt_or_le (missL t ws) 0 with h | h
  · have := Int.mul_neg_of_pos_of_neg hS h; omega
  · exact h
theorem sum_lt_count {S : Int} {l : List Int} (h : ∀ r ∈ l, 0 ≤ r ∧ r < S) : l.sum ≤ S * (l.countP (fun r => decide (0 < r)) : Nat) ∧ (0 < l.sum → l.sum < S * (l.countP (fun r => decide (0 < r)) : Nat)) := by
  induction l with
  | nil => simp
  | cons a l ih =>
    obtain ⟨h1, h2⟩ := ih (fun r hr => h r (by simp [hr]))
    obtain ⟨h3, h4⟩ := h a (by simp)
    simp only [List.sum_cons, List.countP_cons]
    by_cases ha : 0 < a
    · simp only [ha, decide_true, if_true, Int.natCast_add, Int.mul_add]
      constructor <;> omega
    · have : a = 0 := by omega
      subst this
      simp only [Int.lt_irrefl, decide_false, Bool.false_eq_true, if_false, Nat.add_zero, Int.zero_add]
      exact ⟨h1, h2⟩
theorem miss_lt_count (t : Int) {ws : List Int} (hS : 0 < ws.sum) : missL t ws ≤ ((restL t ws).countP (fun r => decide (0 < r)) : Nat) := by
  have h1 := (sum_lt_count (rest_bounds t hS)).1
  rw [sum_rest] at h1
  exact Int.le_of_mul_le_mul_left h1 hS
theorem befB_total (rs : List Int) (i k : Nat) : (befB rs i k || befB rs k i) = true := by
  unfold befB
  simp only [Bool.or_eq_true, decide_eq_true_eq]
  omega
theorem befB_trans (rs : List Int) (i j k : Nat) (h1 : befB rs i j = true) (h2 : befB rs j k = true) : befB rs i k = true := by
  unfold befB at *
  simp only [decide_eq_true_eq] at *
  omega
theorem ordL_perm (rs : List Int) : (ordL rs).Perm (List.range rs.length) := List.mergeSort_perm _ _
theorem ordL_nodup (rs : List Int) : (ordL rs).Nodup := (ordL_perm rs).nodup_iff.2 List.nodup_range
theorem ordL_sorted (rs : List Int) : (ordL rs).Pairwise (fun i k => befB rs i k = true) := List.pairwise_mergeSort (befB_trans rs) (befB_total rs) _
theorem ordL_mem {rs : List Int} {i : Nat} : i ∈ ordL rs ↔ i < rs.length := by rw [(ordL_perm rs).mem_iff]; exact List.mem_range
theorem ordL_length (rs : List Int) : (ordL rs).length = rs.length := by rw [(ordL_perm rs).length_eq, List.length_range]
theorem count_getD (rs : List Int) (p : Int → Bool) : (List.range rs.length).countP (fun i => p (rs.getD i 0)) = rs.countP p := by
  induction rs with
  | nil => simp
  | cons a l ih =>
    rw [List.length_cons, List.range_succ_eq_map, List.countP_cons, List.countP_cons, List.countP_map]
    simp only [List.getD_cons_zero]
    rw [← ih]
    rfl
theorem up_pos (t : Int) {ws : List Int} (hS : 0 < ws.sum) {i : Nat} (hi : i ∈ upL t ws) : 0 < (restL t ws).getD i 0 := by
  have hm := miss_lt_count t hS
  have hb := rest_bounds t hS
  unfold upL at hi
  generalize restL t ws = rs at *
  generalize missL t ws = m at *
  rcases Int.lt_or_le 0 (rs.getD i 0) with h | h
  · exact h
  exfalso
  obtain ⟨k, hk, hki⟩ := List.getElem_of_mem hi
  have hkl : k < (ordL rs).length := by rw [List.length_take] at hk; omega
  have hkm : k < m.toNat := by rw [List.length_take] at hk; omega
  rw [List.getElem_take] at hki
  have hsplit : (ordL rs).countP (fun i => decide (0 < rs.getD i 0)) ≤ k := by
    rw [← List.take_append_drop k (ordL rs), List.countP_append]
    have h1 : ((ordL rs).take k).countP (fun i => decide (0 < rs.getD i 0)) ≤ k := Nat.le_trans List.countP_le_length (by rw [List.length_take]; omega)
    have h2 : ((ordL rs).drop k).countP (fun i => decide (0 < rs.getD i 0)) = 0 := by
      rw [List.countP_eq_zero]
      intro j hj
      obtain ⟨l, hl, hlj⟩ := List.getElem_of_mem hj
      rw [List.getElem_drop] at hlj
      have hl' : k + l < (ordL rs).length := by rw [List.length_drop] at hl; omega
      have hle : rs.getD j 0 ≤ rs.getD i 0 := by
        rcases Nat.eq_zero_or_pos l with e | e
        · subst e
          have e2 : i = j := hki.symm.trans hlj
          rw [e2]
          exact Int.le_refl _
        · have := List.pairwise_iff_getElem.1 (ordL_sorted rs) k (k + l) hkl hl' (by omega)
          rw [hki, hlj] at this
          unfold befB at this
          simp only [decide_eq_true_eq] at this
          omega
      simp only [decide_eq_true_eq]
      omega
    omega
  rw [(ordL_perm rs).countP_eq, count_getD rs (fun r => decide (0 < r))] at hsplit
  omega
theorem up_length (t : Int) {ws : List Int} (hS : 0 < ws.sum) : ((upL t ws).length : Int) = missL t ws := by
  have h1 := miss_lt_count t hS
  have h2 := miss_nonneg t hS
  have h3 : (restL t ws).countP (fun r => decide (0 < r)) ≤ (restL t ws).length := List.countP_le_length
  unfold upL
  rw [List.length_take, ordL_length]
  omega
theorem posL_length (t : Int) (ws : List Int) : (posL t ws).length = ws.length := by simp [posL, baseL]
theorem posL_get (t : Int) (ws : List Int) (i : Nat) (hi : i < ws.length) : (posL t ws)[i]? = some (if i ∈ upL t ws then (t * ws[i]).fdiv ws.sum + 1 else (t * ws[i]).fdiv ws.sum) := by
  simp [posL, baseL, hi]
theorem sum_mapIdx_up (l : List Int) (P : Nat → Prop) [DecidablePred P] : (l.mapIdx fun i b => if P i then b + 1 else b).sum = l.sum + ((List.range l.length).countP (fun i => decide (P i)) : Nat) := by
  induction l generalizing P with
  | nil => simp
  | cons a l ih =>
    rw [List.mapIdx_cons, List.sum_cons, List.sum_cons, List.length_cons, List.range_succ_eq_map, List.countP_cons, List.countP_map]
    have := ih (fun i => P (i + 1))
    rw [this]
    have e : ((fun i => decide (P i)) ∘ Nat.succ) = fun i => decide (P (i + 1)) := rfl
    rw [e]
    by_cases h0 : P 0 <;> simp [h0] <;> omega
theorem sum_posL (t : Int) {ws : List Int} (hS : 0 < ws.sum) : (posL t ws).sum = t := by
  unfold posL
  rw [sum_mapIdx_up (baseL t ws) (fun i => i ∈ upL t ws)]
  have h1 : (List.range (baseL t ws).length).countP (fun i => decide (i ∈ upL t ws)) = (upL t ws).length := by
    have hl : (baseL t ws).length = (restL t ws).length := by simp [baseL, restL]
    rw [hl, ← (ordL_perm (restL t ws)).countP_eq]
    have hn := ordL_nodup (restL t ws)
    unfold upL
    generalize ordL (restL t ws) = o at *
    generalize (missL t ws).toNat = m at *
    have hd : ((o.take m) ++ (o.drop m)).Nodup := by rw [List.take_append_drop]; exact hn
    rw [List.nodup_append] at hd
    have e : o.countP (fun i => decide (i ∈ o.take m)) = (o.take m).countP (fun i => decide (i ∈ o.take m)) + (o.drop m).countP (fun i => decide (i ∈ o.take m)) := by
      rw [← List.countP_append, List.take_append_drop]
    rw [e, List.countP_eq_length.2 (fun a ha => by simpa using ha), List.countP_eq_zero.2 (fun a ha => by
      simp only [decide_eq_true_eq]
      intro hm
      exact hd.2.2 a hm a ha rfl)]
    rfl
  rw [h1, up_length t hS]
  unfold missL
  omega
end Go.Proofs.YtpnncoinlopndaaGreatDoor

namespace Go.Proofs.YtpnncoinlopndaaGreatDoor
open Go.RowKit Go.Shelf
def sumV (ws : List (List UInt8)) : Int := (ws.map val).sum
theorem sumV_snoc (ws : List (List UInt8)) (x : List UInt8) : sumV (ws ++ [x]) = sumV ws + val x := by
  unfold sumV
  rw [List.map_append, sum_append_]
  simp
theorem sumV_take {ws : List (List UInt8)} {k : Nat} {x : List UInt8} (h : ws[k]? = some x) : sumV (ws.take (k + 1)) = sumV (ws.take k) + val x := by
  obtain ⟨hk, rfl⟩ := List.getElem?_eq_some_iff.1 h
  rw [List.take_succ_eq_append_getElem hk, sumV_snoc]
theorem sumV_abs {ws : List (List UInt8)} {L : Nat} (h : ∀ x ∈ ws, x.length ≤ L) : (sumV ws).natAbs ≤ ws.length * 10 ^ L := by
  unfold sumV
  induction ws with
  | nil => simp
  | cons a l ih =>
    have h1 := ih (fun x hx => h x (by simp [hx]))
    have h2 := val_lt' (h a (by simp))
    simp only [List.map_cons, List.sum_cons, List.length_cons, Nat.succ_mul]
    omega
theorem sumV_len {ws : List (List UInt8)} {L : Nat} (h : ∀ x ∈ ws, x.length ≤ L) (hn : ws.length ≤ 9999) : (txtL (sumV ws)).length ≤ L + 5 := by
  refine txtL_length (L := L + 4) ?_
  have h1 := sumV_abs h
  have h2 : ws.length * 10 ^ L < 10 ^ 4 * 10 ^ L := Nat.mul_lt_mul_of_pos_right (by omega) (Nat.pow_pos (by omega))
  rw [Nat.pow_add, Nat.mul_comm (10 ^ L)]
  omega
theorem sumV_take_len {ws : List (List UInt8)} {L : Nat} (h : ∀ x ∈ ws, x.length ≤ L) (hn : ws.length ≤ 9999) (k : Nat) : (txtL (sumV (ws.take k))).length ≤ L + 5 :=
  sumV_len (fun x hx => h x (List.mem_of_mem_take hx)) (by rw [List.length_take]; omega)
end Go.Proofs.YtpnncoinlopndaaGreatDoor

namespace Go.Proofs.YtpnncoinlopndaaGreatDoor
open Go.RowKit Go.Shelf
structure Lot where
  id : List UInt8
  inst : List UInt8
  acq : Int
  opn : Int
  q : List UInt8
  c : List UInt8
  u : List UInt8
deriving DecidableEq
def canB (a : List UInt8) : Bool := decide (a = txtL (val a))
theorem canB_txtL (n : Int) : canB (txtL n) = true := by unfold canB; rw [val_txtL]; simp
def nameC (c : UInt8) : Bool := (decide (97 ≤ c) && decide (c ≤ 122)) || (decide (48 ≤ c) && decide (c ≤ 57)) || c == 95
def nameB (s : List UInt8) : Bool := decide (s ≠ []) && decide (s.length ≤ 16) && s.all nameC
def numB (s : List UInt8) : Bool := decide (1 ≤ s.length) && decide (s.length ≤ 4) && decide (s.head? ≠ some 48) && s.all isDig
def idB (s : List UInt8) : Bool := decide (47 ∈ s) && nameB (s.takeWhile (· != 47)) && numB ((s.dropWhile (· != 47)).drop 1)
def dayB (d : Int) : Bool := decide (-25567 ≤ d) && decide (d ≤ 84005)
def lotC (l : Lot) : Int :=
  if !(idB l.id && nameB l.inst) then 23 else if !(dayB l.acq && dayB l.opn) then 13 else if l.opn < l.acq then 8
  else if !(canB l.q && canB l.c && canB l.u) then 1 else if val l.q ≤ 0 ∨ val l.c < 0 ∨ (l.u ≠ [] ∧ l.u ≠ l.q) then 2 else 0
def lotsC (seen : List (List UInt8)) : List Lot → Int
  | [] => 0
  | x :: l => if lotC x ≠ 0 then lotC x else if x.id ∈ seen then 5 else lotsC (x.id :: seen) l
def allC (l : List Lot) : Int := if 1000 < l.length then 4 else lotsC [] l
structure Lot.Ok (l : Lot) : Prop where
  id : idB l.id = true
  inst : nameB l.inst = true
  acq : dayB l.acq = true
  opn : dayB l.opn = true
  ord : l.acq ≤ l.opn
  q : canB l.q = true
  c : canB l.c = true
  q0 : 0 < val l.q
  c0 : 0 ≤ val l.c
  u : l.u = [] ∨ l.u = l.q
theorem lotC_ok (l : Lot) : lotC l = 0 ↔ l.Ok := by
  unfold lotC
  constructor
  · intro h
    split at h
    · cases h
    rename_i h1
    split at h
    · cases h
    rename_i h2
    split at h
    · cases h
    rename_i h3
    split at h
    · cases h
    rename_i h4
    split at h
    · cases h
    rename_i h5
    simp only [Bool.not_eq_true', Bool.not_eq_false, Bool.and_eq_true] at h1 h2 h4
    simp only [not_or, not_and, Int.not_le, Int.not_lt] at h5
    refine ⟨h1.1, h1.2, h2.1, h2.2, by omega, h4.1.1, h4.1.2, h5.1, h5.2.1, ?_⟩
    by_cases hu : l.u = []
    · exact .inl hu
    · exact .inr (Classical.not_not.1 (h5.2.2 hu))
  · intro h
    rw [if_neg (by simp [h.id, h.inst]), if_neg (by simp [h.acq, h.opn]), if_neg (by have := h.ord; omega), if_neg, if_neg]
    · simp only [not_or, not_and, Int.not_le, Int.not_lt]
      refine ⟨h.q0, h.c0, fun hu => ?_⟩
      rcases h.u with e | e
      · exact absurd e hu
      · exact fun hn => hn e
    · have hcu : canB l.u = true := by
        rcases h.u with e | e
        · rw [e]; decide +kernel
        · rw [e]; exact h.q
      simp [h.q, h.c, hcu]
theorem lotsC_ok (seen : List (List UInt8)) (l : List Lot) : lotsC seen l = 0 ↔ (∀ x ∈ l, x.Ok) ∧ (l.map (·.id)).Nodup ∧ ∀ x ∈ l, x.id ∉ seen := by
  induction l generalizing seen with
  | nil => simp [lotsC]
  | cons a l ih =>
    unfold lotsC
    by_cases h1 : lotC a ≠ 0
    · rw [if_pos h1]
      constructor
      · intro h; exact absurd h h1
      · intro h; exact absurd ((lotC_ok a).2 (h.1 a (by simp))) h1
    · rw [if_neg h1]
      by_cases h2 : a.id ∈ seen
      · rw [if_pos h2]
        constructor
        · intro h; cases h
        · intro h; exact absurd h2 (h.2.2 a (by simp))
      · rw [if_neg h2, ih]
        have h1' : lotC a = 0 := Classical.not_not.1 h1
        constructor
        · intro ⟨ha, hb, hc⟩
          refine ⟨?_, ?_, ?_⟩
          · intro x hx
            rcases List.mem_cons.1 hx with rfl | hx
            · exact (lotC_ok _).1 h1'
            · exact ha x hx
          · rw [List.map_cons, List.nodup_cons]
            refine ⟨?_, hb⟩
            intro hm
            obtain ⟨x, hx, e⟩ := List.mem_map.1 hm
            exact hc x hx (by simp [e])
          · intro x hx
            rcases List.mem_cons.1 hx with rfl | hx
            · exact h2
            · exact fun hs => hc x hx (by simp [hs])
        · intro ⟨ha, hb, hc⟩
          rw [List.map_cons, List.nodup_cons] at hb
          refine ⟨fun x hx => ha x (by simp [hx]), hb.2, fun x hx => ?_⟩
          simp only [List.mem_cons, not_or]
          exact ⟨fun e => hb.1 (List.mem_map.2 ⟨x, hx, e⟩), hc x (by simp [hx])⟩
structure LotsOk (l : List Lot) : Prop where
  len : l.length ≤ 1000
  ok : ∀ x ∈ l, x.Ok
  ids : (l.map (·.id)).Nodup
theorem allC_ok (l : List Lot) : allC l = 0 ↔ LotsOk l := by
  unfold allC
  split
  · rename_i h
    exact ⟨(fun e => absurd e (by decide)), (fun e => absurd e.len (by omega))⟩
  · rename_i h
    rw [lotsC_ok]
    exact ⟨fun e => ⟨by omega, e.1, e.2.1⟩, fun e => ⟨e.ok, e.ids, fun x _ => by simp⟩⟩
def leS (a b : List UInt8) : Bool := Op.bytesLess a b || a == b
def putAt (l : List Lot) (i : List UInt8) : Nat := l.length - (l.reverse.takeWhile (fun y => !leS y.inst i)).length
def putL (l : List Lot) (x : Lot) : List Lot := l.take (putAt l x.inst) ++ x :: l.drop (putAt l x.inst)
def openL (l : List Lot) (x : Lot) : List Lot × Int :=
  if allC l ≠ 0 then ([], 1) else if lotC x ≠ 0 then ([], lotC x) else if x.id ∈ l.map (·.id) then ([], 5) else if 1000 ≤ l.length then ([], 4) else (putL l x, 0)
def lotsOf (l : List Lot) (i : List UInt8) : List Lot := l.filter (fun x => x.inst == i)
end Go.Proofs.YtpnncoinlopndaaGreatDoor

namespace Go.Proofs.YtpnncoinlopndaaGreatDoor
open Go.RowKit
section
variable {α : Type} {p : α → Bool} {xs : List α}
def idxG (p : α → Bool) (xs : List α) : Int := match xs.findIdx? p with | some i => (i : Int) | none => -1
theorem idxG_hit {j : Nat} {r : α} (h : xs[j]? = some r) (hr : p r = true) (hn : (xs.take j).any p = false) : idxG p xs = j := by
  unfold idxG
  have : xs.findIdx? p = some j := by
    rw [List.findIdx?_eq_some_iff_getElem]
    obtain ⟨hj, rfl⟩ := List.getElem?_eq_some_iff.1 h
    refine ⟨hj, hr, fun i hi => ?_⟩
    rw [List.any_eq_false] at hn
    have := hn xs[i] (by rw [List.mem_take_iff_getElem]; exact ⟨i, by omega, rfl⟩)
    simpa using this
  rw [this]
theorem idxG_miss (hn : xs.any p = false) : idxG p xs = -1 := by
  unfold idxG
  have : xs.findIdx? p = none := by
    rw [List.findIdx?_eq_none_iff]; intro x hx; rw [List.any_eq_false] at hn; simpa using hn x hx
  rw [this]
theorem idxG_nonneg (p : α → Bool) (xs : List α) : decide (0 ≤ idxG p xs) = xs.any p := by
  cases h : xs.any p with
  | false => rw [idxG_miss h]; rfl
  | true =>
    rw [List.any_eq_true] at h
    obtain ⟨x, hx, hp⟩ := h
    unfold idxG
    cases hf : xs.findIdx? p with
    | none => rw [List.findIdx?_eq_none_iff] at hf; rw [hf x hx] at hp; cases hp
    | some i => simp
theorem anyG_step {j : Nat} {r : α} (h : xs[j]? = some r) (hn : (xs.take j).any p = false) (hr : p r = false) : (xs.take (j + 1)).any p = false := by
  obtain ⟨hj, rfl⟩ := List.getElem?_eq_some_iff.1 h
  rw [List.take_succ_eq_append_getElem hj, List.any_append, hn]; simp [hr]
end
end Go.Proofs.YtpnncoinlopndaaGreatDoor

namespace Go.Proofs.YtpnncoinlopndaaGreatDoor
open Go.RowKit Go.Shelf
def S1 (s : List UInt8) : List Value := [S s]
theorem S1_len (s : List UInt8) : (S1 s).length = 1 := rfl
theorem S1_cell (s : List UInt8) : ∀ u ∈ S1 s, u.oneCell' = true := by intro u hu; simp [S1] at hu; subst hu; rfl
abbrev Strs (w : World) (B : Nat) (A : Option Addr) (n : Nat) (xs : List (List UInt8)) : Prop := Sl S1 1 w B A n xs
theorem Sl.st {w : World} {B : Nat} {A : Option Addr} {n : Nat} {xs : List (List UInt8)} {i : Nat} (h : Strs w B A n xs) (hi : i < n) :
    ∃ b off x, A = some ⟨b, off, none⟩ ∧ b < B ∧ xs[i]? = some x ∧ w.cell? ⟨b, off + i, none⟩ = some (.string ⟨x.toArray⟩) := by
  obtain ⟨b, off, x, hA, hb, hx, hc⟩ := h.at_ hi
  have := hc 0 _ rfl
  rw [Nat.mul_one, Nat.add_zero] at this
  exact ⟨b, off, x, hA, hb, hx, this⟩
end Go.Proofs.YtpnncoinlopndaaGreatDoor

namespace Go.Proofs.YtpnncoinlopndaaGreatDoor
open Go.RowKit Go.Shelf
set_option maxRecDepth 20000 in
set_option maxHeartbeats 1000000 in
theorem indexSt_any (g : Nat) (cb : Array Value) (p : (List UInt8) → Bool) (A : Option Addr) (n c : Nat) (xs : List (List UInt8)) (w : World) (eg : ∀ args w, (callFunc g args).run Tryz.prog w = .ok (.enter g args) w)
    (hp : ∀ (W : World) (x : (List UInt8)), x ∈ xs → Below w.heap.size w W → Calls Tryz.prog g (#[S x] ++ cb) W fun e w' => e = .returned (.bool (p x)) ∧ Below W.heap.size W w') (hr : Sl S1 1 w w.heap.size A n xs) (hn : n ≤ 1000000000) :
    Calls Tryz.prog 238 #[.slice A n c, .func (.func g) #[] cb] w fun e w' => e = .returned (.int .i64 (idxG p xs)) ∧ Below w.heap.size w w' := by
  have HPR := Lib.hid hp; have HR := Lib.hid hr
  clear hp hr
  go_enter Tryz.func238, Tryz.ntmps238
  go_wp2
  go_loopw [5, 8] (fun _ i wr => ∃ j : Nat, j ≤ n ∧ i = .int .i64 j ∧ Hid ((xs.take j).any p = false) ∧ Below w.heap.size w wr) (fun _ i _ => n - (intOf i).toNat)
  case atStart => exact ⟨0, Nat.zero_le _, rfl, by show _ = _; simp, Below.refl _ _⟩
  case round =>
    obtain ⟨j, hj, rfl, HN, hb⟩ := hrel
    by_cases hlt : j < n
    · obtain ⟨b, off, r, rfl, hbl, hxj, hd⟩ := (HR.out.below hb).at_ hlt
      have d0 : wr.cell? ⟨b, off + j, none⟩ = some (.string ⟨r.toArray⟩) := by have := hd 0 _ rfl; rwa [Nat.mul_one, Nat.add_zero] at this
      have HX := Lib.hid hxj
      have hcall := HPR.out wr r (List.mem_of_getElem? hxj) hb
      unfold S at hcall
      clear hxj hd
      have HC := Lib.hid hcall; clear hcall
      cases hq : p r with
      | true =>
        rw [hq] at HC
        have HQ := Lib.hid hq; clear hq
        go_wp2_with (go_at_fn g; refine (HC.out).mono ?_; rintro e w' ⟨rfl, hb'⟩)
        go_ret
        exact ⟨ret_int (idxG_hit HX.out HQ.out HN.out).symm, hb.trans (hb'.mono hb.size)⟩
      | false =>
        rw [hq] at HC
        have HQ := Lib.hid hq; clear hq
        go_wp2_with (go_at_fn g; refine (HC.out).mono ?_; rintro e w' ⟨rfl, hb'⟩)
        go_roundw
        case rel => exact ⟨j + 1, by omega, by go_num, anyG_step HX.out HN.out HQ.out, hb.trans (hb'.mono hb.size)⟩
        case measure => simp [intOf]; omega
    · go_wp2
      go_ret
      exact ⟨ret_int (idxG_miss (by have := HN.out; rwa [List.take_of_length_le (by have := HR.out.1; omega)] at this)).symm, hb⟩
theorem containsSt_any (g : Nat) (cb : Array Value) (p : (List UInt8) → Bool) (A : Option Addr) (n c : Nat) (xs : List (List UInt8)) (w : World) (eg : ∀ args w, (callFunc g args).run Tryz.prog w = .ok (.enter g args) w)
    (hp : ∀ (W : World) (x : (List UInt8)), x ∈ xs → Below w.heap.size w W → Calls Tryz.prog g (#[S x] ++ cb) W fun e w' => e = .returned (.bool (p x)) ∧ Below W.heap.size W w') (hr : Sl S1 1 w w.heap.size A n xs) (hn : n ≤ 1000000000) :
    Calls Tryz.prog 202 #[.slice A n c, .func (.func g) #[] cb] w fun e w' => e = .returned (.bool (xs.any p)) ∧ Below w.heap.size w w' := by
  have H := Lib.hid (indexSt_any g cb p A n c xs w eg hp hr hn); clear hp eg hr
  have e := idxG_nonneg p xs
  generalize idxG p xs = z at *
  have E := Lib.hid e; clear e
  go_enter Tryz.func202, Tryz.ntmps202
  go_wp2_with (go_at_call 238; refine (H.out).mono ?_; rintro e w' ⟨rfl, hb'⟩)
  go_ret
  exact ⟨ret_bool E.out, hb'⟩
end Go.Proofs.YtpnncoinlopndaaGreatDoor

namespace Go.Proofs.YtpnncoinlopndaaGreatDoor
open Go.RowKit Go.Shelf
set_option maxRecDepth 20000 in
theorem aNegative_any (a : List UInt8) (ha : a.length ≤ 100000) : Gives 170 #[S a] (.bool (decide (val a < 0))) := by
  intro w hp
  have HC := Lib.hid (Compare_any a [] w ha (by simp))
  rw [val_nil, Int.sub_zero] at HC
  have HE := Lib.hid (show decide (sgnI (val a) < 0) = decide (val a < 0) by rw [Bool.eq_iff_iff, decide_eq_true_eq, decide_eq_true_eq]; unfold sgnI; (repeat' split) <;> omega)
  generalize sgnI (val a) = z at *
  generalize decide (val a < 0) = bb at *
  clear ha hp
  unfold S at *
  go_enter Tryz.func170, Tryz.ntmps170
  go_wp2_with fail
  refine HC.out.mono ?_
  rintro e w1 ⟨rfl, hb⟩
  go_wp2_with fail
  first | go_ret | skip
  exact ⟨ret_bool HE.out, hb⟩
set_option maxRecDepth 20000 in
set_option maxHeartbeats 1000000 in
theorem aWhole_any (A : Option Addr) (n c : Nat) (ws : List (List UInt8)) (w : World) (hp : Env w) (hs : Strs w w.heap.size A n ws) (hl : ∀ x ∈ ws, x.length ≤ 50000) (hn : n ≤ 9999) :
    Calls Tryz.prog 204 #[.slice A n c] w (StrPost (txtL (sumV ws)) w) := by
  have HPO := Lib.hid (show StrPost (txtL (sumV ws)) w = fun e w' => e = .returned (S (txtL (sumV ws))) ∧ Below w.heap.size w w' from rfl)
  generalize StrPost (txtL (sumV ws)) w = post at *
  have HS := Lib.hid hs; have HL := Lib.hid hl
  have H0 := Lib.hid (Kp.start hp)
  have hnw := hs.1
  have HNW := Lib.hid hnw
  clear hs hl hp hnw
  unfold S at *
  go_enter Tryz.func204, Tryz.ntmps204
  go_wp2_with fail
  go_loopw [3, 8] (fun s i wr => ∃ k : Nat, k ≤ n ∧ i = .int .i64 k ∧ s = .string ⟨(txtL (sumV (ws.take k))).toArray⟩ ∧ Hid (Kp w [] wr)) (fun _ i _ => n - (intOf i).toNat)
  case atStart => exact ⟨0, Nat.zero_le _, rfl, rfl, H0⟩
  case round =>
    clear H0
    obtain ⟨k, hk, rfl, rfl, H⟩ := hrel
    by_cases hlt : k < n
    · obtain ⟨b, off, x, rfl, hb, hx, d0⟩ := (HS.out.below H.out.bl).st hlt
      have HA := Lib.hid (Add_any (txtL (sumV (ws.take k))) x wr H.out.po (by have := sumV_take_len HL.out (by rw [← HNW.out]; omega) k; omega) (by have := HL.out x (List.mem_of_getElem? hx); omega))
      rw [val_txtL, ← sumV_take hx] at HA
      clear hx
      unfold S at HA
      go_wp2_with fail
      refine HA.out.mono ?_
      rintro e w1 ⟨rfl, hb1⟩
      try unfold S
      go_wp2_with fail
      go_roundw
      case rel => exact ⟨k + 1, by omega, by go_num, rfl, H.out.here hb1⟩
      case measure => simp [intOf]; omega
    · have HE := Lib.hid (show txtL (sumV (ws.take k)) = txtL (sumV ws) by rw [List.take_of_length_le (by have := HNW.out; omega)])
      rw [HE.out]
      go_wp2_with fail
      first | go_ret | skip
      rw [HPO.out]
      exact ⟨rfl, H.out.bl⟩
def splitC (t : List UInt8) (ws : List (List UInt8)) : Int :=
  if ws = [] then 11 else if 1000 < ws.length then 4 else if canB t = false ∨ ws.any (fun x => !canB x || decide (val x < 0)) = true then 1 else if sumV ws = 0 then 10 else 0
set_option maxRecDepth 20000 in
theorem aCheck1_any (a : List UInt8) (ha : a.length ≤ 100000) : Gives 203 #[S a] (.bool (!canB a || decide (val a < 0))) := by
  intro w hp
  have HC := Lib.hid (iCheck_any a (by omega))
  have HN := Lib.hid (aNegative_any a ha)
  have H := Lib.hid (Kp.start hp)
  generalize decide (val a < 0) = bb at *
  clear ha hp
  by_cases hc : a = txtL (val a)
  · rw [if_pos hc] at HC
    have HCB := Lib.hid (show canB a = true by unfold canB; simpa using hc)
    rw [HCB.out]
    clear hc
    unfold S at *
    go_enter Tryz.func203, Tryz.ntmps203
    go_wp2_with fail
    refine (HC.out _ H.out.pw).mono ?_
    rintro e w1 ⟨rfl, hb⟩
    replace H := Lib.hid (H.out.here hb)
    clear hb
    go_wp2_with fail
    refine (HN.out _ H.out.pw).mono ?_
    rintro e w2 ⟨rfl, hb⟩
    go_wp2_with fail
    first | go_ret | skip
    exact ⟨rfl, (H.out.here hb).bl⟩
  · rw [if_neg hc] at HC
    have HCB := Lib.hid (show canB a = false by unfold canB; simpa using hc)
    rw [HCB.out]
    clear hc
    unfold S at *
    go_enter Tryz.func203, Tryz.ntmps203
    go_wp2_with fail
    refine (HC.out _ H.out.pw).mono ?_
    rintro e w1 ⟨rfl, hb⟩
    go_wp2_with fail
    first | go_ret | skip
    exact ⟨rfl, (H.out.here hb).bl⟩
set_option maxRecDepth 20000 in
set_option maxHeartbeats 1000000 in
theorem aCheck_any (t : List UInt8) (A : Option Addr) (n c : Nat) (ws : List (List UInt8)) (w : World) (hp : Env w) (hs : Strs w w.heap.size A n ws) (ht : t.length ≤ 100000) (hl : ∀ x ∈ ws, x.length ≤ 50000) (hn : n ≤ 1000000000) :
    Calls Tryz.prog 168 #[S t, .slice A n c] w (CmpIPost (splitC t ws) w) := by
  have HPO := Lib.hid (show CmpIPost (splitC t ws) w = fun e w' => e = .returned (.int .i64 (splitC t ws)) ∧ Below w.heap.size w w' from rfl)
  have HSC := Lib.hid (show splitC t ws = if ws = [] then 11 else if 1000 < ws.length then 4 else if canB t = false ∨ ws.any (fun x => !canB x || decide (val x < 0)) = true then 1 else if sumV ws = 0 then 10 else 0 from rfl)
  generalize CmpIPost (splitC t ws) w = post at *
  generalize splitC t ws = res at *
  have HS := Lib.hid hs; have HL := Lib.hid hl
  have H := Lib.hid (Kp.start hp)
  have hnw := hs.1
  have HC := Lib.hid (iCheck_any t (by omega))
  have HCF := Lib.hid (fun W (hb : Below w.heap.size w W) => containsSt_any 203 #[] (fun x => !canB x || decide (val x < 0)) A n c ws W (enters_of Tryz.func203 (by kernel_rfl) rfl) (fun W' x hx hb' => aCheck1_any x (by have := hl x hx; omega) W' ((hp.here hb).here hb')) (hs.here hb) hn)
  have HCT := Lib.hid (show (if t = txtL (val t) then (0 : Int) else 1) = if canB t = true then 0 else 1 by
    unfold canB
    by_cases h : t = txtL (val t)
    · rw [if_pos h, if_pos (decide_eq_true h)]
    · rw [if_neg h, if_neg (by simpa using h)])
  rw [HCT.out] at HC
  generalize canB t = ct at *
  generalize ws.any (fun x => !canB x || decide (val x < 0)) = an at *
  have HNW := Lib.hid hnw
  clear hs hl hp ht HCT
  unfold S at *
  rcases Nat.eq_zero_or_pos n with h0 | h0
  · subst h0
    rw [if_pos (List.eq_nil_of_length_eq_zero hnw.symm)] at HSC
    clear hnw hn
    go_enter Tryz.func168, Tryz.ntmps168
    go_wp2_with fail
    first | go_ret | skip
    rw [HPO.out, HSC.out]
    exact ⟨rfl, H.out.bl⟩
  rw [if_neg (fun e => by rw [e] at hnw; simp at hnw; omega), ← hnw] at HSC
  have hn0 : ((n : Int) == 0) = false := by simp; omega
  by_cases h1 : 1000 < n
  · rw [if_pos h1] at HSC
    clear hnw
    go_enter Tryz.func168, Tryz.ntmps168
    go_wp2_with fail
    first | go_ret | skip
    rw [HPO.out, HSC.out]
    exact ⟨rfl, H.out.bl⟩
  rw [if_neg h1] at HSC
  have hn1 : ¬ 1000 < n := h1
  have HW := Lib.hid (fun W (hb : Below w.heap.size w W) => aWhole_any A n c ws W (H.out.pow.here hb) (HS.out.here hb) HL.out (by omega))
  have HE := Lib.hid (show (txtL (sumV ws) == []) = decide (sumV ws = 0) by
    rw [Bool.eq_iff_iff]
    simp only [beq_iff_eq, decide_eq_true_eq]
    exact txtL_nil)
  clear hnw h1
  cases ct with
  | false =>
    rw [if_pos (.inl rfl)] at HSC
    clear HCF HW HE
    go_enter Tryz.func168, Tryz.ntmps168
    go_wp2_with fail
    refine (HC.out _ H.out.pw).mono ?_
    rintro e w1 ⟨rfl, hb⟩
    go_wp2_with fail
    first | go_ret | skip
    rw [HPO.out, HSC.out]
    exact ⟨rfl, (H.out.here hb).bl⟩
  | true =>
    cases an with
    | true =>
      rw [if_pos (.inr rfl)] at HSC
      clear HW HE
      go_enter Tryz.func168, Tryz.ntmps168
      go_wp2_with fail
      refine (HC.out _ H.out.pw).mono ?_
      rintro e w1 ⟨rfl, hb⟩
      replace H := Lib.hid (H.out.here hb)
      clear hb
      go_wp2_with fail
      refine (HCF.out _ H.out.bl).mono ?_
      rintro e w2 ⟨rfl, hb⟩
      go_wp2_with fail
      first | go_ret | skip
      rw [HPO.out, HSC.out]
      exact ⟨rfl, (H.out.here hb).bl⟩
    | false =>
      rw [if_neg (by simp)] at HSC
      generalize txtL (sumV ws) = tw at *
      generalize hz : decide (sumV ws = 0) = zz at *
      have HZ := Lib.hid hz
      clear hz
      cases zz with
      | true =>
        rw [if_pos (by have := HZ.out; simpa using this)] at HSC
        have hx : (tw == []) = true := HE.out
        clear HE HZ
        go_enter Tryz.func168, Tryz.ntmps168
        go_wp2_with fail
        refine (HC.out _ H.out.pw).mono ?_
        rintro e w1 ⟨rfl, hb⟩
        replace H := Lib.hid (H.out.here hb)
        clear hb
        go_wp2_with fail
        refine (HCF.out _ H.out.bl).mono ?_
        rintro e w2 ⟨rfl, hb⟩
        replace H := Lib.hid (H.out.here hb)
        clear hb
        go_wp2_with fail
        refine (HW.out _ H.out.bl).mono ?_
        rintro e w3 ⟨rfl, hb⟩
        try unfold S
        go_wp2_with fail
        first | go_ret | skip
        rw [HPO.out, HSC.out]
        exact ⟨rfl, (H.out.here hb).bl⟩
      | false =>
        rw [if_neg (by have := HZ.out; simpa using this)] at HSC
        have hx : (tw == []) = false := HE.out
        clear HE HZ
        go_enter Tryz.func168, Tryz.ntmps168
        go_wp2_with fail
        refine (HC.out _ H.out.pw).mono ?_
        rintro e w1 ⟨rfl, hb⟩
        replace H := Lib.hid (H.out.here hb)
        clear hb
        go_wp2_with fail
        refine (HCF.out _ H.out.bl).mono ?_
        rintro e w2 ⟨rfl, hb⟩
        replace H := Lib.hid (H.out.here hb)
        clear hb
        go_wp2_with fail
        refine (HW.out _ H.out.bl).mono ?_
        rintro e w3 ⟨rfl, hb⟩
        try unfold S
        go_wp2_with fail
        first | go_ret | skip
        rw [HPO.out, HSC.out]
        exact ⟨rfl, (H.out.here hb).bl⟩
end Go.Proofs.YtpnncoinlopndaaGreatDoor

