/- Merged texts: Lz, Cp, InL. -/
import Derived.Test.YtpnncoinlopndaaGreatDoorQGTn12
import Derived.Test.YtpnncoinlopndaaGreatDoorBaseqGTn
import Derived.Laws.CopyOwn
import Derived.Lib.AppendZerosOnto
import Derived.Lib.AppendZeros
import Derived.Lib.Overlaps
import Derived.Lib.LazyBuf
import Derived.Laws.Externs
import Derived.Deep.RegionLaw
import Derived.RegionTactic
namespace Go.Proofs.YtpnncoinlopndaaGreatDoor
open Go.RowKit Go.Shelf
structure PlK (K : Nat) (x : Plan) : Prop where
  ex : RB K x.exact
  parts : x.parts.natAbs < 10 ^ K
  part : RB K x.part
  moved : x.moved.natAbs < 10 ^ K
  taken : x.taken.natAbs < 10 ^ K
  cash : x.cash.natAbs < 10 ^ K
  n : ∀ i, (x.n.getD i 0).natAbs < 10 ^ K
  m : ∀ i, (x.m.getD i 0).natAbs < 10 ^ K
  f : ∀ i, (x.f.getD i 0).natAbs < 10 ^ K
  p : ∀ i, (x.p.getD i 0).natAbs < 10 ^ K
  mv : ∀ i, (x.mv i).natAbs < 10 ^ K
  rest : ∀ i, (x.rest i).natAbs < 10 ^ K
theorem pow_up {a K L : Nat} (h : a < 10 ^ K) (hKL : K ≤ L) : a < 10 ^ L := Nat.lt_of_lt_of_le h (Nat.pow_le_pow_right (by omega) hKL)
theorem getD_lt {l : List Int} {K : Nat} (h0 : ∀ x ∈ l, 0 ≤ x) (hs : l.sum.natAbs < 10 ^ K) (i : Nat) : (l.getD i 0).natAbs < 10 ^ K := by
  rw [List.getD_eq_getElem?_getD]
  cases h : l[i]? with
  | none => exact Nat.pow_pos (by omega)
  | some x =>
    have hx := List.mem_of_getElem? h
    have h1 := h0 x hx
    have h2 := le_sum_ h0 hx
    show x.natAbs < _
    omega
theorem sum_lt {α : Type} {l : List α} {g : α → Int} {L : Nat} (h : ∀ a ∈ l, (g a).natAbs < 10 ^ L) (hl : l.length ≤ 1000) : ((l.map g).sum).natAbs < 10 ^ (L + 4) := by
  have h1 : ∀ (k : List α), (∀ a ∈ k, (g a).natAbs < 10 ^ L) → ((k.map g).sum).natAbs ≤ k.length * 10 ^ L := by
    intro k
    induction k with
    | nil => intro _; simp
    | cons a k ih =>
      intro hk
      have e1 := hk a (by simp)
      have e2 := ih (fun b hb => hk b (by simp [hb]))
      rw [List.map_cons, List.sum_cons, List.length_cons, Nat.succ_mul]
      omega
  have h2 := h1 l h
  have h3 : l.length * 10 ^ L ≤ 1000 * 10 ^ L := Nat.mul_le_mul_right _ hl
  have h4 : 10 ^ (L + 4) = 10000 * 10 ^ L := by rw [Nat.pow_add, Nat.mul_comm]
  have h5 : 0 < 10 ^ L := Nat.pow_pos (by omega)
  rw [h4]
  generalize 10 ^ L = P at *
  generalize l.length * P = Z at *
  omega
theorem rnd_lt {q : Rat} {K : Nat} (h : RB K q) (hK : 1 ≤ K) : (rnd q).natAbs < 10 ^ (K + 1) := by
  have h1 := flo_le q
  have h2 := (rnd_bounds q).2
  have h3 := h.1
  have h4 : 10 ^ (K + 1) = 10 * 10 ^ K := by rw [Nat.pow_add, Nat.mul_comm]
  have h5 : 10 ^ 1 ≤ 10 ^ K := Nat.pow_le_pow_right (by omega) hK
  rw [h4]
  generalize 10 ^ K = P at *
  rcases h2 with h2 | ⟨h2, _⟩ <;> omega
theorem flo_lt {q : Rat} {K : Nat} (h : RB K q) (hK : 1 ≤ K) : (flo q).natAbs < 10 ^ (K + 1) := by
  have h1 := flo_le q
  have h3 := h.1
  have h4 : 10 ^ (K + 1) = 10 * 10 ^ K := by rw [Nat.pow_add, Nat.mul_comm]
  have h5 : 10 ^ 1 ≤ 10 ^ K := Nat.pow_le_pow_right (by omega) hK
  rw [h4]
  generalize 10 ^ K = P at *
  omega
theorem rb_part {q : Rat} {K : Nat} (h : RB K q) : RB K (q - ((flo q : Int) : Rat)) := by
  rw [sub_flo]
  obtain ⟨h1, h2⟩ := flr_bounds q
  have hd : (q.den : Int) ≠ 0 := by have := q.den_nz; omega
  exact RB.divInt (by have := h.2; omega) (by have := h.2; omega) hd
theorem rb_mulq {p q : Rat} {K : Nat} (hp : RB K p) (hq : RB K q) : RB (K + K + 2) (p * q) := by
  have h := rb_mul (frOf_sz hp) (frOf_sz hq) (by omega)
  rw [rat_frOf, rat_frOf] at h
  exact h.more (by omega)
theorem rb_int {k : Int} {K : Nat} (h : k.natAbs < 10 ^ K) (hK : 1 ≤ K) : RB K ((k : Int) : Rat) := by
  refine ⟨by simpa using h, ?_⟩
  have : 10 ^ 1 ≤ 10 ^ K := Nat.pow_le_pow_right (by omega) hK
  simp
  omega
theorem planL_k {old : List Lot} {m : Mp} {L : Nat} (h : ∀ y ∈ old, y.Ok) (hm : m.Ok) (hl : old.length ≤ 1000) (hL : 1 ≤ L) (hq : ∀ y ∈ old, y.q.length ≤ L) (hc : ∀ y ∈ old, y.c.length ≤ L) (hr : m.ratio.Sz L) (hpr : m.price.Sz L) : PlK (4 * L + 40) (planL old m) := by
  have hsq : ((old.map fun y => val y.q).sum).natAbs < 10 ^ (L + 4) := sum_lt (fun y hy => val_lt' (hq y hy)) hl
  have hsc : ((old.map fun y => val y.c).sum).natAbs < 10 ^ (L + 4) := sum_lt (fun y hy => val_lt' (hc y hy)) hl
  have hok := planL_ok h hm
  obtain ⟨nq, nc⟩ := old_nonneg h
  obtain ⟨l1, l2, l3, l4⟩ := planL_lens old m
  have hex : RB (2 * L + 10) (planL old m).exact := by
    rw [hok.ex]
    exact (rb_mulq (rb_int hsq (by omega)) ((sz_rb hr hL).more (show L ≤ L + 4 by omega))).more (by omega)
  have hparts : (planL old m).parts.natAbs < 10 ^ (2 * L + 11) := flo_lt hex (by omega)
  have hpart : RB (2 * L + 10) (planL old m).part := rb_part hex
  have hmoved : (planL old m).moved.natAbs < 10 ^ (L + 4) := by have h1 := hok.moved0; have h2 := hok.moved1; omega
  have htaken : (planL old m).taken.natAbs < 10 ^ (L + 4) := by have h1 := hok.taken0; have h2 := hok.taken1; have h3 := hok.moved0; omega
  have hcash : (planL old m).cash.natAbs < 10 ^ (4 * L + 23) := by
    have e : (planL old m).cash = rnd ((planL old m).part * m.price.rat) := rfl
    rw [e]
    exact rnd_lt ((rb_mulq hpart ((sz_rb hpr hL).more (show L ≤ 2 * L + 10 by omega))).more (by omega)) (by omega)
  have nm : ∀ x ∈ (planL old m).m, 0 ≤ x := divS_nonneg hok.moved0 nc
  have nn : ∀ x ∈ (planL old m).n, 0 ≤ x := divS_nonneg hok.parts0 nq
  have nf : ∀ x ∈ (planL old m).f, 0 ≤ x := divS_nonneg hok.taken0 nm
  have np : ∀ x ∈ (planL old m).p, 0 ≤ x := divS_nonneg hok.cash0 nq
  have hsum : (planL old m).n.sum.natAbs < 10 ^ (2 * L + 11) ∧ (planL old m).m.sum.natAbs < 10 ^ (L + 4) ∧ (planL old m).f.sum.natAbs < 10 ^ (L + 4) ∧ (planL old m).p.sum.natAbs < 10 ^ (4 * L + 23) := by
    by_cases ho : old = []
    · subst ho
      rw [List.length_nil] at l1 l2 l3 l4
      rw [List.eq_nil_of_length_eq_zero l1, List.eq_nil_of_length_eq_zero l2, List.eq_nil_of_length_eq_zero l3, List.eq_nil_of_length_eq_zero l4]
      exact ⟨Nat.pow_pos (by omega), Nat.pow_pos (by omega), Nat.pow_pos (by omega), Nat.pow_pos (by omega)⟩
    · obtain ⟨s1, s2, s3, s4, _⟩ := planL_sums h hm ho
      rw [s1, s2, s3, s4]
      exact ⟨hparts, hmoved, htaken, hcash⟩
  have gm := getD_lt nm hsum.2.1
  have gf := getD_lt nf hsum.2.2.1
  have gmv : ∀ i, ((planL old m).mv i).natAbs < 10 ^ (L + 5) := fun i => sub_lt_pow (gm i) (gf i)
  have hrest : ∀ i, ((planL old m).rest i).natAbs ≤ (min i old.length) * 10 ^ (L + 5) := by
    intro i
    induction i with
    | zero => show (0 : Int).natAbs ≤ _; simp
    | succ i ih =>
      rw [rest_succ]
      have h1 := gmv i
      have h0 : i ≥ old.length → (planL old m).mv i = 0 := fun hi => by
        unfold Plan.mv
        rw [List.getD_eq_getElem?_getD, List.getD_eq_getElem?_getD, List.getElem?_eq_none (by omega), List.getElem?_eq_none (by omega)]
        rfl
      generalize (planL old m).mv i = v at *
      generalize (planL old m).rest i = r at *
      by_cases hi : i < old.length
      · rw [Nat.min_eq_left (by omega)] at ih ⊢
        rw [Nat.succ_mul]
        generalize 10 ^ (L + 5) = P at *
        generalize i * P = Z at *
        split <;> omega
      · rw [Nat.min_eq_right (by omega)] at ih ⊢
        rw [h0 (by omega)]
        simpa using ih
  refine ⟨hex.more (by omega), pow_up hparts (by omega), hpart.more (by omega), pow_up hmoved (by omega), pow_up htaken (by omega), pow_up hcash (by omega), fun i => pow_up (getD_lt nn hsum.1 i) (by omega), fun i => pow_up (gm i) (by omega), fun i => pow_up (gf i) (by omega), fun i => pow_up (getD_lt np hsum.2.2.2 i) (by omega), fun i => pow_up (gmv i) (by omega), fun i => ?_⟩
  have h1 := hrest i
  have h2 : (min i old.length) * 10 ^ (L + 5) ≤ 1000 * 10 ^ (L + 5) := Nat.mul_le_mul_right _ (by omega)
  have h4 : 10 ^ (L + 5 + 4) = 10000 * 10 ^ (L + 5) := by rw [Nat.pow_add, Nat.mul_comm]
  have h5 : 0 < 10 ^ (L + 5) := Nat.pow_pos (by omega)
  refine pow_up (K := L + 5 + 4) ?_ (by omega)
  rw [h4]
  generalize 10 ^ (L + 5) = P at *
  generalize (min i old.length) * P = Z at *
  omega
end Go.Proofs.YtpnncoinlopndaaGreatDoor

namespace Go.Proofs.YtpnncoinlopndaaGreatDoor
open Go.RowKit
theorem run_copy_k {P : Program} (w : World) (dT sT ty elem : TypeId) (k g off dLen dCap : Nat) (ad : Addr) (sLen sCap m : Nat) (cur : List Value) (t : TypeId) (cs : List Value)
    (hu : P.underlying dT = some (.slice elem)) (hsz : (P.info? elem).map (·.size) = some k) (hg : w.heap[g]? = some (.cells cur.toArray t (0, 0))) (hm : Nat.min sLen dLen = m) (hn : cs.length = m * k)
    (hsrc : ∀ j v, cs[j]? = some v → w.cell? (ad.add j) = some v) (hfit : off + cs.length ≤ cur.length) (h1 : ∀ v ∈ cs, v.oneCell' = true) :
    (Builtin.copy_ #[dT, sT] ty #[.slice (some ⟨g, off, none⟩) dLen dCap, .slice (some ad) sLen sCap]).run P w = .ok (goInt m) (w.setRow g (splice cur off cs).toArray) := by
  have hl := run_loadCells_list (P := P) w ad cs hsrc
  have hst := run_storeCells_at (P := P) g off t cs 0 cur.toArray w hg (by simpa using hfit) h1
  cases hq : P.info? elem with
  | none => simp [hq] at hsz
  | some i =>
    have hi : i.size = k := by simpa [hq] using hsz
    simp [Builtin.copy_, run_underlying hu, Builtin.lenOf, Builtin.firstCells, sizeOf, typeInfo, hq, hi, hm, ← hn, hl, hst, splice]
theorem wp_copyr {P : Program} (w : World) {o : Oper} {a : Act} {K : Act → World → Prop} {Q : Exit → Act → World → Prop} (d s : Operand) (t t' : TypeId)
    (ho : o.op = .call { callee := .builtin .copy, args := #[d, s], argTypes := #[t, t'] }) (v u : Value) (hd : a.eval d = v) (hs : a.eval s = u) {v' : Value} {w' : World}
    (hr : (Builtin.copy_ #[t, t'] o.type #[v, u]).run P w = .ok v' w') (h : K (a.put o.dst v') w') : o.wp P a w K Q := by
  unfold Oper.wp execOp
  simp only [ho, resolve, invoke, builtin, Sem.run_bind, Sem.run_pure, Result.andThen_ok, List.map_toArray, List.map_cons, List.map_nil, hd, hs, hr]
  exact h
theorem step_copyr {P : Program} {ops : Array Oper} {o : Oper} {a : Act} {w : World} {K : Act → World → Prop} {Q : Exit → Act → World → Prop} {E : Prop}
    (hg : o.guard = none) (d x : Operand) (dT sT : TypeId) (hop : o.op = Op.call { callee := Callee.builtin Builtin.copy, args := #[d, x], argTypes := #[dT, sT] })
    (v u : Value) (hd : a.eval d = v) (hx : a.eval x = u) {v' : Value} {w' : World} (hr : (Builtin.copy_ #[dT, sT] o.type #[v, u]).run P w = .ok v' w') (hK : K (a.put o.dst v') w') :
    if Region.wanted o (yielded ops a.tmps) = true then Oper.wp P o a w K Q else E := by
  have hw : Region.wanted o (yielded ops a.tmps) = true := by simp [Region.wanted, hg]
  rw [if_pos hw]
  exact wp_copyr w d x dT sT hop v u hd hx hr hK
section
variable {α : Type} {enc : α → List Value} {k : Nat}
theorem splice_at {β : Type} (L : List β) (off : Nat) (cs : List β) (hfit : off + cs.length ≤ L.length) (j : Nat) : (splice L off cs)[j]? = if j < off then L[j]? else if j < off + cs.length then cs[j - off]? else L[j]? := by
  unfold splice
  by_cases h1 : j < off
  · rw [if_pos h1, List.getElem?_append_left (by rw [List.length_take]; omega), List.getElem?_take_of_lt h1]
  · rw [if_neg h1, List.getElem?_append_right (by rw [List.length_take]; omega), List.length_take, Nat.min_eq_left (by omega)]
    by_cases h2 : j < off + cs.length
    · rw [if_pos h2, List.getElem?_append_left (by omega)]
    · rw [if_neg h2, List.getElem?_append_right (by omega), List.getElem?_drop]
      congr 1
      omega
theorem ins_row (he : ∀ x, (enc x).length = k) (cur : List Value) (xs : List α) (x : α) (i : Nat) (hi : i ≤ xs.length) (hlen : (xs.length + 1) * k ≤ cur.length) (hpre : ∀ j, j < i * k → cur[j]? = (xs.flatMap enc)[j]?)
    (new : List Value) (hnl : new.length = cur.length)
    (hnew : ∀ j, new[j]? = if j < i * k then cur[j]? else if j < (i + 1) * k then (enc x)[j - i * k]? else if j < (xs.length + 1) * k then ((xs.drop i).flatMap enc)[j - (i + 1) * k]? else cur[j]?) :
    new.take ((xs.length + 1) * k) = (xs.take i ++ x :: xs.drop i).flatMap enc := by
  have hk : (i + 1) * k = i * k + k := Nat.succ_mul i k
  have hik : i * k ≤ xs.length * k := Nat.mul_le_mul_right k hi
  have hn1 : (xs.length + 1) * k = xs.length * k + k := Nat.succ_mul _ k
  have hft : (xs.take i).flatMap enc = (xs.flatMap enc).take (i * k) := flat_take he xs i
  have hlt : ((xs.take i).flatMap enc).length = i * k := by rw [flat_len he, List.length_take, Nat.min_eq_left hi]
  have hld : ((xs.drop i).flatMap enc).length = xs.length * k - i * k := by rw [flat_len he, List.length_drop, Nat.sub_mul]
  apply List.ext_getElem?
  intro j
  rw [List.flatMap_append, List.flatMap_cons]
  by_cases h1 : j < i * k
  · rw [List.getElem?_take_of_lt (by omega), hnew, if_pos h1, hpre j h1, List.getElem?_append_left (by omega), hft, List.getElem?_take_of_lt h1]
  · rw [List.getElem?_append_right (by omega), hlt]
    by_cases h2 : j < (i + 1) * k
    · rw [List.getElem?_take_of_lt (by omega), hnew, if_neg h1, if_pos h2, List.getElem?_append_left (by rw [he]; omega)]
    · rw [List.getElem?_append_right (by rw [he]; omega), he]
      by_cases h3 : j < (xs.length + 1) * k
      · rw [List.getElem?_take_of_lt h3, hnew, if_neg h1, if_neg h2, if_pos h3]
        congr 1
        omega
      · rw [List.getElem?_eq_none (by rw [List.length_take]; omega), List.getElem?_eq_none (by omega)]
end
end Go.Proofs.YtpnncoinlopndaaGreatDoor

namespace Go.Proofs.YtpnncoinlopndaaGreatDoor
open Go.RowKit Go.Shelf
theorem elemLots : ElemT Tryz.prog 22 54 7 96 := elemT_of Tryz.underlying22 (by kernel_rfl) (by decide) (by decide)
set_option maxRecDepth 10000 in
theorem cloneLo_any (a : Addr) (n c : Nat) (xs : List Lot) (w : World) (hr : Lots w w.heap.size (some a) n xs) (hn : n ≤ 1000000) :
    Calls Tryz.prog 26 #[.slice (some a) n c] w (RetOwn L7 7 54 w.heap.size w xs) := by
  have HR := Lib.hid (hr.alloc (Nat.le_refl _) (.cells #[] 54)); clear hr
  have hnil : (binOp .eql 22 (.slice (some a) n c) (.slice none 0 0)).run Tryz.prog w = .ok (.bool false) w := run_eql_slice_nil w 22 54 _ n c Tryz.underlying22
  go_enter Tryz.func26, Tryz.ntmps26
  go_wp2_with (at_builtin; refine wpList_app _ rfl (.tmp 5) (.tmp 6) _ rfl elemLots L7_len L7_cell (base := w.heap.size) (.slice (some ⟨w.heap.size, 0, none⟩) 0 0) [] rfl (Own.lit w #[] 54 [] rfl L7_len (Nat.le_refl _) (by simp)) _ _ n c xs rfl HR.out (by simp; omega) (by simp) ?_
               intro A3 c3 w3 ho3 hg3 _
               rw [List.length_nil, Nat.zero_add] at ho3 ⊢
               rw [List.nil_append] at ho3
               have hb3 : Below w.heap.size w w3 := below_grown ((Below.refl _ _).alloc (Nat.le_refl _) _) hg3 (by simp) (fun g e => by simp [Value.ownBlock] at e; omega)
               have HO3 := Lib.hid ho3; clear ho3 hg3)
  go_ret
  exact RetOwn.mk rfl HO3.out hb3
theorem cloneLo_nil (w : World) : Calls Tryz.prog 26 #[.slice none 0 0] w (RetOwn L7 7 54 w.heap.size w ([] : List Lot)) := by
  have hnil : (binOp .eql 22 (.slice none 0 0) (.slice none 0 0)).run Tryz.prog w = .ok (.bool true) w := run_eql_slice_nil w 22 54 _ 0 0 Tryz.underlying22
  go_enter Tryz.func26, Tryz.ntmps26
  go_wp2
  go_ret
  exact RetOwn.mk rfl Own.nil (Below.refl _ _)
def RetIns (base : Nat) (w : World) (n : Nat) (xs : List Lot) (e : Ending) (w' : World) : Prop :=
  ∃ A c, e = .returned (.slice A n c) ∧ Own L7 7 54 w' base (.slice A n c) xs ∧ Below base w w'
set_option maxRecDepth 20000 in
set_option maxHeartbeats 1000000 in
theorem ins_end (A : Option Addr) (n c vb base : Nat) (xs : List Lot) (x : Lot) (w : World) (ho : Own L7 7 54 w base (.slice A n c) xs) (hv : Lots w w.heap.size (some ⟨vb, 0, none⟩) 1 [x]) (hn : n ≤ 1000000) (hbs : base ≤ w.heap.size) :
    Calls Tryz.prog 84 #[.slice A n c, .int .i64 n, .slice (some ⟨vb, 0, none⟩) 1 1] w (RetIns base w (n + 1) (xs ++ [x])) := by
  obtain ⟨hnx, hxc, hcm, hA⟩ := ho.facts
  have HO := Lib.hid ho; have HV := Lib.hid hv
  have hc63 : c ≤ 9223372036854775807 := by unfold maxLen at hcm; omega
  have hnc : n ≤ c := by omega
  have HRI := Lib.hid (show ∀ e w', RetIns base w (n + 1) (xs ++ [x]) e w' = ∃ A c, e = .returned (.slice A (n + 1) c) ∧ Own L7 7 54 w' base (.slice A (n + 1) c) (xs ++ [x]) ∧ Below base w w' from fun _ _ => rfl)
  generalize RetIns base w (n + 1) (xs ++ [x]) = post at *
  have HA := Lib.hid hA
  have HN := Lib.hid hnx
  clear ho hv hcm hxc hA hnx
  go_enter Tryz.func84, Tryz.ntmps84
  go_wp2_with (at_builtin; refine wpList_app _ rfl (.tmp 23) (.tmp 24) _ rfl elemLots L7_len L7_cell (base := base) (.slice A n c) xs rfl HO.out _ _ 1 1 [x] rfl HV.out (by rw [← HN.out]; omega) hbs ?_
               intro A3 c3 w3 ho3 hg3 _
               rw [← HN.out] at ho3 ⊢
               have HO3 := Lib.hid ho3
               have HG3 := Lib.hid hg3
               clear ho3 hg3)
  all_goals
    first | go_ret | skip
    rw [HRI.out]
    refine ⟨A3, c3, rfl, HO3.out, below_grown (Below.refl _ _) HG3.out hbs (fun g e => ?_)⟩
    rcases HA.out with ⟨rfl, _⟩ | ⟨g', rfl, hg1, _⟩
    · simp [Value.ownBlock] at e
    · simp [Value.ownBlock] at e; omega
def lotC7 (x : Lot) : Array Value := #[.string ⟨x.id.toArray⟩, .string ⟨x.inst.toArray⟩, .int .i64 x.acq, .int .i64 x.opn, .string ⟨x.q.toArray⟩, .string ⟨x.c.toArray⟩, .string ⟨x.u.toArray⟩]
theorem lotC7_eq (x : Lot) : (L7 x).toArray = lotC7 x := rfl
theorem ov_apart (w : World) (vb g off lb cb : Nat) (x : Lot) (cur : Array Value) (hv : BlkB w vb (lotC7 x) 54) (hg : BlkB w g cur 54) (hc : cur.size ≠ 0) (hne : vb ≠ g) :
    (callFunc 133 #[.slice (some ⟨vb, 0, none⟩) 1 1, .slice (some ⟨g, off, none⟩) lb cb]).run Tryz.prog w = .ok (.value (.bool false)) w := by
  have hsa : w.shape? vb = some (54, 7) := by unfold BlkB at hv; simp [World.shape?, hv, lotC7]
  have hsb : w.shape? g = some (54, cur.size) := by unfold BlkB at hg; simp [World.shape?, hg]
  rw [run_callFunc_extern Tryz.func133 (by kernel_rfl) (by kernel_rfl) (by kernel_rfl) (e := Extern.SlicesOverlaps.overlaps #[22, 22] #[4]) (by kernel_rfl),
    Lib.run_overlaps_apart w 22 4 54 Tryz.underlying22 7 Tryz.sizeOf54 ⟨vb, 0, none⟩ ⟨g, off, none⟩ 1 1 lb cb hne 54 54 7 cur.size hsa hsb hc (hv.frozen 0) (hv.frozen 7)]
  rfl
set_option maxRecDepth 100000 in
set_option maxHeartbeats 4000000 in
theorem ins_room (g n c i vb base : Nat) (xs : List Lot) (x : Lot) (w : World) (ho : Own L7 7 54 w base (.slice (some ⟨g, 0, none⟩) n c) xs) (hv : BlkB w vb (lotC7 x) 54) (hne : vb ≠ g) (hi : i < n) (hroom : n + 1 ≤ c) (hn : n ≤ 1000000) (hbs : base ≤ w.heap.size) :
    Calls Tryz.prog 84 #[.slice (some ⟨g, 0, none⟩) n c, .int .i64 i, .slice (some ⟨vb, 0, none⟩) 1 1] w (RetIns base w (n + 1) (xs.take i ++ x :: xs.drop i)) := by
  obtain ⟨hnx, hxc, hcm, hA⟩ := ho.facts
  have ho2 := ho.2
  rcases ho2 with ⟨hv0, _⟩ | ⟨g', cap', cur, hv1, hbg, hg, hnc, _, hcs, htk⟩
  · cases hv0
  injection hv1 with a1 a2 a3
  injection a1 with a1
  injection a1 with a1 _
  subst a1; subst a3
  subst hnx
  have hsz : (Tryz.prog.info? 54).map (·.size) = some 7 := by kernel_rfl
  have hgB : BlkB w g cur 54 := hg
  have hg1 : w.drew.heap[g]? = some (.cells cur.toList.toArray 54 (0, 0)) := by rw [Array.toArray_toList]; exact hg
  have hfl : (xs.flatMap L7).length = xs.length * 7 := flat_len L7_len xs
  have hcl : cur.toList.length = c * 7 := by simpa using hcs
  have hcells : ∀ (j : Nat) (v : Value), (xs.flatMap L7)[j]? = some v → cur[j]? = some v := by
    intro j v hj
    rw [← htk, List.getElem?_take] at hj
    split at hj
    · simpa using hj
    · cases hj
  have hcp1 : ∀ ty dc sc, (Builtin.copy_ #[22, 22] ty #[.slice (some ⟨g, (i + 1) * 7, none⟩) (xs.length - i) dc, .slice (some ⟨g, i * 7, none⟩) (xs.length + 1 - i) sc]).run Tryz.prog w.drew = .ok (goInt (xs.length - i : Nat)) (w.drew.setRow g (splice cur.toList ((i + 1) * 7) ((xs.drop i).flatMap L7)).toArray) := fun ty dc sc =>
    run_copy_k w.drew _ _ ty 54 7 g ((i + 1) * 7) _ dc ⟨g, i * 7, none⟩ _ sc (xs.length - i) cur.toList 54 ((xs.drop i).flatMap L7) Tryz.underlying22 hsz hg1 (by simp only [Nat.min_def]; split <;> omega) (by rw [flat_len L7_len, List.length_drop])
      (fun j v hj => by
        rw [Addr.add_lit]
        show w.cell? ⟨g, i * 7 + j, none⟩ = some v
        exact hgB.cell (i * 7 + j) (hcells (i * 7 + j) v (by
          have e : (xs.flatMap L7).drop (i * 7) = (xs.drop i).flatMap L7 := by
            conv => lhs; rw [← List.take_append_drop i xs, List.flatMap_append]
            rw [List.drop_append_of_le_length (by rw [flat_len L7_len, List.length_take]; omega), List.drop_eq_nil_of_le (by rw [flat_len L7_len, List.length_take]; omega), List.nil_append]
          rw [← e, List.getElem?_drop] at hj
          exact hj)))
      (by rw [flat_len L7_len, List.length_drop, hcl]; omega) (fun v hv => by
        obtain ⟨y, _, hy⟩ := List.mem_flatMap.1 hv
        exact L7_cell y v hy)
  obtain ⟨Z1, hZ1⟩ : ∃ Z1, Z1 = splice cur.toList ((i + 1) * 7) ((xs.drop i).flatMap L7) := ⟨_, rfl⟩
  have hz1l : Z1.length = c * 7 := by rw [hZ1, length_splice _ _ _ (by rw [flat_len L7_len, List.length_drop, hcl]; omega), hcl]
  rw [← hZ1] at hcp1
  obtain ⟨W1, hW1⟩ : ∃ W1, W1 = w.drew.setRow g Z1.toArray := ⟨_, rfl⟩
  rw [← hW1] at hcp1
  have hg2 : W1.heap[g]? = some (.cells Z1.toArray 54 (0, 0)) := by rw [hW1]; exact setRow_heap _ _ _ _ _ _ hg1
  have hv2 : BlkB W1 vb (lotC7 x) 54 := by rw [hW1]; exact (setRow_other _ _ _ _ hne).trans hv
  have hcp2 : ∀ ty dc, (Builtin.copy_ #[22, 22] ty #[.slice (some ⟨g, i * 7, none⟩) (xs.length + 1 - i) dc, .slice (some ⟨vb, 0, none⟩) 1 1]).run Tryz.prog W1 = .ok (goInt 1) (W1.setRow g (splice Z1 (i * 7) (L7 x)).toArray) := fun ty dc =>
    run_copy_k W1 _ _ ty 54 7 g (i * 7) _ dc ⟨vb, 0, none⟩ 1 1 1 Z1 54 (L7 x) Tryz.underlying22 hsz hg2 (by simp only [Nat.min_def]; split <;> omega) rfl
      (fun j v hj => by
        rw [Addr.add_lit, Nat.zero_add]
        exact hv2.cell j (by rw [← lotC7_eq]; simpa using hj))
      (by rw [hz1l, L7_len]; omega) (L7_cell x)
  have HOV := Lib.hid (fun off lb cb => ov_apart w vb g off lb cb x cur hv hgB (by omega) hne)
  have HC1 := Lib.hid hcp1; have HC2 := Lib.hid hcp2
  have hc63 : c ≤ 9223372036854775807 := by unfold maxLen at hcm; omega
  have HRI := Lib.hid (show RetIns base w (xs.length + 1) (xs.take i ++ x :: xs.drop i) = fun e w' => ∃ A c, e = .returned (.slice A (xs.length + 1) c) ∧ Own L7 7 54 w' base (.slice A (xs.length + 1) c) (xs.take i ++ x :: xs.drop i) ∧ Below base w w' from rfl)
  have HEND := Lib.hid (show Own L7 7 54 (W1.setRow g (splice Z1 (i * 7) (L7 x)).toArray) base (.slice (some ⟨g, 0, none⟩) (xs.length + 1) c) (xs.take i ++ x :: xs.drop i) ∧ Below base w (W1.setRow g (splice Z1 (i * 7) (L7 x)).toArray) by
    have hln : (xs.take i ++ x :: xs.drop i).length = xs.length + 1 := by rw [List.length_append, List.length_cons, List.length_take, List.length_drop]; omega
    have hd7 : ((xs.drop i).flatMap L7).length = (xs.length - i) * 7 := by rw [flat_len L7_len, List.length_drop]
    refine ⟨⟨flat_len L7_len _, .inr ⟨g, c, (splice Z1 (i * 7) (L7 x)).toArray, by rw [hln], hbg, setRow_heap _ _ _ _ _ _ hg2, by rw [hln]; exact hroom, hcm, by simp [length_splice, hz1l, L7_len]; rw [length_splice _ _ _ (by rw [hz1l, L7_len]; omega), hz1l], ?_⟩⟩, ?_⟩
    · rw [hln]
      show (splice Z1 (i * 7) (L7 x)).take _ = _
      refine ins_row L7_len cur.toList xs x i (by omega) (by rw [hcl]; omega) (fun j hj => ?_) _ (by rw [length_splice _ _ _ (by rw [hz1l, L7_len]; omega), hz1l, hcl]) (fun j => ?_)
      · rw [← htk, List.getElem?_take_of_lt (by omega)]
      · rw [splice_at _ _ _ (by rw [hz1l, L7_len]; omega), L7_len]
        by_cases h1 : j < i * 7
        · rw [if_pos h1, if_pos h1, hZ1, splice_at _ _ _ (by rw [hd7, hcl]; omega), if_pos (by omega)]
        · rw [if_neg h1, if_neg h1]
          by_cases h2 : j < i * 7 + 7
          · rw [if_pos h2, if_pos (by omega)]
          · rw [if_neg h2, if_neg (by omega), hZ1, splice_at _ _ _ (by rw [hd7, hcl]; omega), if_neg (by omega), hd7]
            by_cases h3 : j < (i + 1) * 7 + (xs.length - i) * 7
            · rw [if_pos h3, if_pos (by omega)]
            · rw [if_neg h3, if_neg (by omega)]
    · rw [hW1]
      exact below_setRow (below_setRow (Below.refl _ w).drew hbg _) hbg _)
  generalize RetIns base w (xs.length + 1) (xs.take i ++ x :: xs.drop i) = post at *
  generalize W1.setRow g (splice Z1 (i * 7) (L7 x)).toArray = W2 at *
  obtain ⟨n, hn'⟩ : ∃ n, n = xs.length := ⟨_, rfl⟩
  rw [← hn'] at HC1 HC2 HRI HEND hi hroom hn ⊢
  have hw1 : IntKind.i64.wrap ((i : Int) + 1) = (i : Int) + 1 := by rw [IntKind.wrap_i64]; omega
  have hb1 : (0 : Int) ≤ (i : Int) + 1 := by omega
  have htn : ((i : Int) + 1).toNat = i + 1 := by omega
  have hb2 : ¬ (c = i + 1) := by omega
  have hb3 : (i : Int) ≤ (n : Int) + 1 := by omega
  have hb4 : ¬ (c = i) := by omega
  have hin : ¬ ((i : Int) = (n : Int)) := by omega
  have hin2 : i ≤ n := by omega
  have HNX := Lib.hid hn'
  clear hn'
  clear hcp1 hcp2 hW1 hg2 hv2 hz1l hZ1 hg hg1 hgB hfl hcl hcells hcs htk ho hA hxc hv hsz hcm
  go_enter Tryz.func84, Tryz.ntmps84
  go_wp2_with (simp only [HOV.out])
  go_region_law (refine step_copyr rfl (.tmp 73) (.tmp 76) 22 22 rfl (.slice (some ⟨g, (i + 1) * 7, none⟩) (n - i) (c - (i + 1))) (.slice (some ⟨g, i * 7, none⟩) (n + 1 - i) (c - i)) (by simp [Act.eval, Act.put]) (by simp [Act.eval, Act.put]) (HC1.out 3 (c - (i + 1)) (c - i)) ?_)
  have hc2 := HC2.out 3 (c - i)
  go_wp2_with fail
  all_goals
    first | go_ret | skip
    rw [HRI.out]
    exact ⟨_, _, rfl, HEND.out.1, HEND.out.2⟩
set_option maxRecDepth 100000 in
set_option maxHeartbeats 4000000 in
theorem ins_grow (g n c i vb base : Nat) (xs : List Lot) (x : Lot) (w : World) (ho : Own L7 7 54 w base (.slice (some ⟨g, 0, none⟩) n c) xs) (hv : BlkB w vb (lotC7 x) 54) (hi : i < n) (hroom : c < n + 1) (hn : n ≤ 1000000) (hbs : base ≤ w.heap.size) :
    Calls Tryz.prog 84 #[.slice (some ⟨g, 0, none⟩) n c, .int .i64 i, .slice (some ⟨vb, 0, none⟩) 1 1] w (RetIns base w (n + 1) (xs.take i ++ x :: xs.drop i)) := by
  obtain ⟨hnx, hxc, hcm, hA⟩ := ho.facts
  have ho2 := ho.2
  rcases ho2 with ⟨hv0, _⟩ | ⟨g', cap', cur, hv1, hbg, hg, hnc, _, hcs, htk⟩
  · cases hv0
  injection hv1 with a1 a2 a3
  injection a1 with a1
  injection a1 with a1 _
  subst a1; subst a3
  subst hnx
  have hsz : (Tryz.prog.info? 54).map (·.size) = some 7 := by kernel_rfl
  obtain ⟨i0, z0, hu0, hi0, hz0, hs0, hb0, hzs0, _, _⟩ := elemLots
  have hgB : BlkB w g cur 54 := hg
  have hfl : (xs.flatMap L7).length = xs.length * 7 := flat_len L7_len xs
  have hcells : ∀ (j : Nat) (v : Value), (xs.flatMap L7)[j]? = some v → cur[j]? = some v := by
    intro j v hj
    rw [← htk, List.getElem?_take] at hj
    split at hj
    · simpa using hj
    · cases hj
  have hft : (xs.take i).flatMap L7 = (xs.flatMap L7).take (i * 7) := flat_take L7_len xs i
  have hold : (Builtin.firstCells i0.size i (.slice (some ⟨g, 0, none⟩) i c)).run Tryz.prog w.drew = .ok ((xs.take i).flatMap L7).toArray w.drew := by
    rw [hs0]
    exact run_firstCells_some w.drew 7 i ⟨g, 0, none⟩ i c _ (by rw [flat_len L7_len, List.length_take]; rw [Nat.min_eq_left (by omega)]) (fun j v hj => by
      rw [Addr.add_lit, Nat.zero_add]
      show w.cell? ⟨g, j, none⟩ = some v
      rw [hft, List.getElem?_take] at hj
      split at hj
      · exact hgB.cell j (hcells j v hj)
      · cases hj)
  have hkk : (xs.length : Int) + 1 - (i : Int) = ((xs.length + 1 - i : Nat) : Int) := by omega
  have hik : i + (xs.length + 1 - i) = xs.length + 1 := by omega
  have hrz := fun ty => Lib.run_append_grow_zeros (P := Tryz.prog) w 22 3 ty 54 i0 z0 .i64 .i64 Tryz.underlying22 Tryz.underlying3 hi0 hz0 (some ⟨g, 0, none⟩) i c _ hold (xs.length + 1 - i) (by omega) (by omega) (by omega) (by omega) (by rw [hb0]; omega) (by rw [hb0, hik]; exact growslice_fits hroom (by omega))
  rw [hik] at hrz
  obtain ⟨G, hG⟩ : ∃ G, G = grownCap w (xs.length + 1) c 54 := ⟨_, rfl⟩
  have hGn : xs.length + 1 ≤ G := by rw [hG]; exact grownCap_ge w _ _ _
  have hGm : G ≤ maxLen := by rw [hG]; exact grownCap_le_maxLen w _ _ _ (by unfold maxLen; omega)
  rw [← hG] at hrz
  obtain ⟨R, hR⟩ : ∃ R : Array Value, R = ((xs.take i).flatMap L7).toArray ++ Builtin.zeroCells z0.cells (xs.length + 1 - i) ++ Builtin.zeroCells z0.cells (G - (xs.length + 1)) := ⟨_, rfl⟩
  rw [← hR] at hrz
  have hzl : ∀ k, (Builtin.zeroCells z0.cells k).size = k * 7 := fun k => by simp [Builtin.zeroCells, hzs0, Nat.mul_comm]
  have hRs : R.size = G * 7 := by
    rw [hR, Array.size_append, Array.size_append, hzl, hzl]
    simp only [List.size_toArray]
    rw [flat_len L7_len, List.length_take, Nat.min_eq_left (by omega)]
    omega
  have hRpre : ∀ j, j < i * 7 → R.toList[j]? = (xs.flatMap L7)[j]? := by
    intro j hj
    rw [hR]
    simp only [Array.toList_append]
    rw [List.getElem?_append_left (by rw [List.length_append, flat_len L7_len, List.length_take]; omega), List.getElem?_append_left (by rw [flat_len L7_len, List.length_take]; omega), hft, List.getElem?_take_of_lt hj]
  clear hG hR hold
  obtain ⟨W1, hW1⟩ : ∃ W1, W1 = w.drew.alloc (.cells R 54) := ⟨_, rfl⟩
  rw [← hW1] at hrz
  have hgw : g < w.heap.size := hgB.lt
  have hvw : vb < w.heap.size := hv.lt
  have hp1 : W1.heap[w.heap.size]? = some (.cells R.toList.toArray 54 (0, 0)) := by rw [hW1, Array.toArray_toList]; exact heap_alloc_new w.drew _
  have hg1 : BlkB W1 g cur 54 := by rw [hW1]; exact BlkB.alloc (w := w.drew) hgB _
  have hv1 : BlkB W1 vb (lotC7 x) 54 := by rw [hW1]; exact BlkB.alloc (w := w.drew) hv _
  have hrl : R.toList.length = G * 7 := by simpa using hRs
  have hcp1 : ∀ ty dc, (Builtin.copy_ #[22, 22] ty #[.slice (some ⟨w.heap.size, i * 7, none⟩) (xs.length + 1 - i) dc, .slice (some ⟨vb, 0, none⟩) 1 1]).run Tryz.prog W1 = .ok (goInt 1) (W1.setRow w.heap.size (splice R.toList (i * 7) (L7 x)).toArray) := fun ty dc =>
    run_copy_k W1 _ _ ty 54 7 w.heap.size (i * 7) _ dc ⟨vb, 0, none⟩ 1 1 1 R.toList 54 (L7 x) Tryz.underlying22 hsz hp1 (by simp only [Nat.min_def]; split <;> omega) rfl
      (fun j v hj => by
        rw [Addr.add_lit, Nat.zero_add]
        exact hv1.cell j (by rw [← lotC7_eq]; simpa using hj))
      (by rw [hrl, L7_len]; omega) (L7_cell x)
  obtain ⟨Z1, hZ1⟩ : ∃ Z1, Z1 = splice R.toList (i * 7) (L7 x) := ⟨_, rfl⟩
  have hz1l : Z1.length = G * 7 := by rw [hZ1, length_splice _ _ _ (by rw [hrl, L7_len]; omega), hrl]
  rw [← hZ1] at hcp1
  obtain ⟨W2, hW2⟩ : ∃ W2, W2 = W1.setRow w.heap.size Z1.toArray := ⟨_, rfl⟩
  rw [← hW2] at hcp1
  have hp2 : W2.drew.heap[w.heap.size]? = some (.cells Z1.toArray 54 (0, 0)) := by rw [hW2]; exact setRow_heap _ _ _ _ _ _ hp1
  have hg2 : BlkB W2.drew g cur 54 := by rw [hW2]; exact (setRow_other _ _ _ _ (by omega)).trans hg1
  have hd7 : ((xs.drop i).flatMap L7).length = (xs.length - i) * 7 := by rw [flat_len L7_len, List.length_drop]
  have hcp2 : ∀ ty dc sc, (Builtin.copy_ #[22, 22] ty #[.slice (some ⟨w.heap.size, (i + 1) * 7, none⟩) (xs.length - i) dc, .slice (some ⟨g, i * 7, none⟩) (xs.length - i) sc]).run Tryz.prog W2.drew = .ok (goInt (xs.length - i : Nat)) (W2.drew.setRow w.heap.size (splice Z1 ((i + 1) * 7) ((xs.drop i).flatMap L7)).toArray) := fun ty dc sc =>
    run_copy_k W2.drew _ _ ty 54 7 w.heap.size ((i + 1) * 7) _ dc ⟨g, i * 7, none⟩ _ sc (xs.length - i) Z1 54 ((xs.drop i).flatMap L7) Tryz.underlying22 hsz hp2 (by simp) hd7
      (fun j v hj => by
        rw [Addr.add_lit]
        show W2.drew.cell? ⟨g, i * 7 + j, none⟩ = some v
        exact hg2.cell (i * 7 + j) (hcells (i * 7 + j) v (by
          have e : (xs.flatMap L7).drop (i * 7) = (xs.drop i).flatMap L7 := by
            conv => lhs; rw [← List.take_append_drop i xs, List.flatMap_append]
            rw [List.drop_append_of_le_length (by rw [flat_len L7_len, List.length_take]; omega), List.drop_eq_nil_of_le (by rw [flat_len L7_len, List.length_take]; omega), List.nil_append]
          rw [← e, List.getElem?_drop] at hj
          exact hj)))
      (by rw [hd7, hz1l]; omega) (fun v hv => by
        obtain ⟨y, _, hy⟩ := List.mem_flatMap.1 hv
        exact L7_cell y v hy)
  have HRI := Lib.hid (show RetIns base w (xs.length + 1) (xs.take i ++ x :: xs.drop i) = fun e w' => ∃ A c, e = .returned (.slice A (xs.length + 1) c) ∧ Own L7 7 54 w' base (.slice A (xs.length + 1) c) (xs.take i ++ x :: xs.drop i) ∧ Below base w w' from rfl)
  have HEND := Lib.hid (show Own L7 7 54 (W2.drew.setRow w.heap.size (splice Z1 ((i + 1) * 7) ((xs.drop i).flatMap L7)).toArray) base (.slice (some ⟨w.heap.size, 0, none⟩) (xs.length + 1) G) (xs.take i ++ x :: xs.drop i) ∧ Below base w (W2.drew.setRow w.heap.size (splice Z1 ((i + 1) * 7) ((xs.drop i).flatMap L7)).toArray) by
    have hln : (xs.take i ++ x :: xs.drop i).length = xs.length + 1 := by rw [List.length_append, List.length_cons, List.length_take, List.length_drop]; omega
    refine ⟨⟨flat_len L7_len _, .inr ⟨w.heap.size, G, (splice Z1 ((i + 1) * 7) ((xs.drop i).flatMap L7)).toArray, by rw [hln], hbs, setRow_heap _ _ _ _ _ _ hp2, by rw [hln]; exact hGn, hGm, by rw [List.size_toArray, length_splice _ _ _ (by rw [hz1l, hd7]; omega), hz1l], ?_⟩⟩, ?_⟩
    · rw [hln]
      show (splice Z1 ((i + 1) * 7) ((xs.drop i).flatMap L7)).take _ = _
      refine ins_row L7_len R.toList xs x i (by omega) (by rw [hrl]; omega) hRpre _ (by rw [length_splice _ _ _ (by rw [hz1l, hd7]; omega), hz1l, hrl]) (fun j => ?_)
      rw [splice_at _ _ _ (by rw [hz1l, hd7]; omega), hd7]
      by_cases h1 : j < i * 7
      · rw [if_pos h1, if_pos (by omega), hZ1, splice_at _ _ _ (by rw [hrl, L7_len]; omega), if_pos h1]
      · rw [if_neg h1]
        by_cases h2 : j < (i + 1) * 7
        · rw [if_pos h2, if_pos h2, hZ1, splice_at _ _ _ (by rw [hrl, L7_len]; omega), if_neg h1, L7_len, if_pos (by omega)]
        · rw [if_neg h2, if_neg h2]
          by_cases h3 : j < (xs.length + 1) * 7
          · rw [if_pos h3, if_pos (by omega)]
          · rw [if_neg h3, if_neg (by omega), hZ1, splice_at _ _ _ (by rw [hrl, L7_len]; omega), if_neg h1, L7_len, if_neg (by omega)]
    · rw [hW2, hW1]
      exact below_setRow (below_setRow (((Below.refl base w).drew.alloc (by exact hbs) _)) hbs _).drew hbs _)
  generalize RetIns base w (xs.length + 1) (xs.take i ++ x :: xs.drop i) = post at *
  generalize W2.drew.setRow w.heap.size (splice Z1 ((i + 1) * 7) ((xs.drop i).flatMap L7)).toArray = W3 at *
  rw [hkk.symm] at hrz
  have HA1 := Lib.hid hrz; have HC1 := Lib.hid hcp1; have HC2 := Lib.hid hcp2
  clear hrz hcp1 hcp2 hRpre hRs hrl hzl
  obtain ⟨n, hn'⟩ : ∃ n, n = xs.length := ⟨_, rfl⟩
  rw [← hn'] at HA1 HC1 HC2 HRI HEND hi hroom hn hGn ⊢
  have HNX := Lib.hid hn'
  clear hn'
  have hw1 : IntKind.i64.wrap ((i : Int) + 1) = (i : Int) + 1 := by rw [IntKind.wrap_i64]; omega
  have hb1 : (0 : Int) ≤ (i : Int) + 1 := by omega
  have htn : ((i : Int) + 1).toNat = i + 1 := by omega
  have hG63 : G ≤ 9223372036854775807 := by unfold maxLen at hGm; omega
  have hc63 : c ≤ 9223372036854775807 := by omega
  have hb2 : ¬ (G = i + 1) := by omega
  have hb3 : (i : Int) ≤ (n : Int) := by omega
  have hb4 : ¬ (G = i) := by omega
  have hb5 : ¬ (c = i) := by have := HNX.out; omega
  have hb6 : i ≤ c := by have := HNX.out; omega
  have hb7 : n ≤ c := by have := HNX.out; omega
  have hin : ¬ ((i : Int) = (n : Int)) := by omega
  have hin2 : i ≤ n := by omega
  clear hW1 hW2 hp1 hp2 hg1 hg2 hv1 hz1l hZ1 hg hgB hfl hcells hcs htk ho hA hxc hv hsz hcm hkk hik hd7 hft hGm hu0 hi0 hz0 hs0 hb0 hzs0
  have hc1 := HC1.out 3 (G - i)
  go_enter Tryz.func84, Tryz.ntmps84
  go_wp2_with (at_builtin; refine Lib.wpList_append_run _ rfl _ _ _ _ rfl _ _ rfl rfl _ _ (HA1.out 22) ?_)
  go_region_law (refine step_copyr rfl (.tmp 50) (.tmp 53) 22 22 rfl (.slice (some ⟨w.heap.size, (i + 1) * 7, none⟩) (n - i) (G - (i + 1))) (.slice (some ⟨g, i * 7, none⟩) (n - i) (c - i)) (by simp [Act.eval, Act.put]) (by simp [Act.eval, Act.put]) (HC2.out 3 (G - (i + 1)) (c - i)) ?_)
  go_wp2_with fail
  all_goals
    first | go_ret | skip
    rw [HRI.out]
    exact ⟨_, _, rfl, HEND.out.1, HEND.out.2⟩
end Go.Proofs.YtpnncoinlopndaaGreatDoor

