/- Base. -/
import Derived.Test.YtpnncoinlopndaaGreatDoorProg
import Derived.WalkKit
import Derived.Deep.QuietTactic
import Derived.BigQuiet
import Derived.Lib.Hide
import Derived.Below
import Derived.Laws.OwnMore
import Derived.Deep.AppendLies
import Derived.Deep.Draws
import Derived.Laws.Rows
import Derived.KernelRfl
namespace Go.Proofs.YtpnncoinlopndaaGreatDoor
open Go.RowKit
theorem ret_bool {a b : Bool} (h : a = b) : Ending.returned (.bool a) = .returned (.bool b) := by rw [h]
theorem ret_int {k : IntKind} {a b : Int} (h : a = b) : Ending.returned (.int k a) = .returned (.int k b) := by rw [h]
section
variable {α : Type}
def Sl (enc : α → List Value) (k : Nat) (w : World) (B : Nat) (A : Option Addr) (n : Nat) (xs : List α) : Prop :=
  n = xs.length ∧ (0 < n → ∃ b off, A = some ⟨b, off, none⟩ ∧ b < B ∧ ∀ i x, xs[i]? = some x → ∀ j u, (enc x)[j]? = some u → w.cell? ⟨b, off + i * k + j, none⟩ = some u)
def Own (enc : α → List Value) (k : Nat) (e : TypeId) (w : World) (base : Nat) (v : Value) (xs : List α) : Prop :=
  w.ownsRow base e k v xs.length (xs.flatMap enc)
variable {enc : α → List Value} {k : Nat} {e : TypeId} {w w' : World} {B B' n base : Nat} {A : Option Addr} {v : Value} {xs ys : List α}
theorem Sl.nil : Sl enc k w B A 0 ([] : List α) := ⟨rfl, fun h => absurd h (Nat.lt_irrefl 0)⟩
theorem Sl.len (h : Sl enc k w B A n xs) : n = xs.length := h.1
theorem Sl.at_ {i : Nat} (h : Sl enc k w B A n xs) (hi : i < n) :
    ∃ b off x, A = some ⟨b, off, none⟩ ∧ b < B ∧ xs[i]? = some x ∧ ∀ j u, (enc x)[j]? = some u → w.cell? ⟨b, off + i * k + j, none⟩ = some u := by
  obtain ⟨b, off, e, hb, hc⟩ := h.2 (by omega)
  have hl : i < xs.length := by have := h.1; omega
  exact ⟨b, off, xs[i], e, hb, List.getElem?_eq_getElem hl, hc i _ (List.getElem?_eq_getElem hl)⟩
theorem Sl.keep (h : Sl enc k w B A n xs) (hk : ∀ p : Addr, p.block < B → w'.cell? p = w.cell? p) : Sl enc k w' B A n xs :=
  ⟨h.1, fun hn => by
    obtain ⟨b, off, e, hb, hc⟩ := h.2 hn
    exact ⟨b, off, e, hb, fun i x hi j u hj => (hk ⟨b, off + i * k + j, none⟩ hb).trans (hc i x hi j u hj)⟩⟩
theorem Sl.below (h : Sl enc k w B A n xs) (hb : Below B w w') : Sl enc k w' B A n xs := h.keep fun _ hp => hb.cell hp
theorem Sl.more (h : Sl enc k w B A n xs) (hB : B ≤ B') : Sl enc k w B' A n xs :=
  ⟨h.1, fun hn => by
    obtain ⟨b, off, e, hb, hc⟩ := h.2 hn
    exact ⟨b, off, e, by omega, hc⟩⟩
theorem Sl.here (h : Sl enc k w w.heap.size A n xs) (hb : Below w.heap.size w w') : Sl enc k w' w'.heap.size A n xs := (h.below hb).more hb.size
theorem flat_at (he : ∀ x, (enc x).length = k) (xs : List α) (m : Nat) (u : Value) (h : (xs.flatMap enc)[m]? = some u) :
    ∃ i x j, xs[i]? = some x ∧ (enc x)[j]? = some u ∧ m = i * k + j := by
  induction xs generalizing m with
  | nil => simp at h
  | cons y ys ih =>
    rw [List.flatMap_cons] at h
    by_cases hm : m < k
    · rw [List.getElem?_append_left (by rw [he]; exact hm)] at h
      exact ⟨0, y, m, rfl, h, by simp⟩
    · rw [List.getElem?_append_right (by rw [he]; omega), he] at h
      obtain ⟨i, x, j, h1, h2, h3⟩ := ih _ h
      exact ⟨i + 1, x, j, by simpa using h1, h2, by rw [Nat.succ_mul]; omega⟩
theorem flat_len (he : ∀ x, (enc x).length = k) (xs : List α) : (xs.flatMap enc).length = xs.length * k := by
  induction xs with
  | nil => simp
  | cons y ys ih => rw [List.flatMap_cons, List.length_append, ih, he, List.length_cons, Nat.succ_mul]; omega
theorem flat_get (he : ∀ x, (enc x).length = k) (xs : List α) (i j : Nat) (x : α) (u : Value) (hi : xs[i]? = some x) (hj : (enc x)[j]? = some u) : (xs.flatMap enc)[i * k + j]? = some u := by
  induction xs generalizing i with
  | nil => simp at hi
  | cons y ys ih =>
    have hjk : j < k := by have := (List.getElem?_eq_some_iff.1 hj).1; rw [he] at this; exact this
    cases i with
    | zero =>
      simp only [List.getElem?_cons_zero, Option.some.injEq] at hi
      subst hi
      rw [Nat.zero_mul, Nat.zero_add, List.flatMap_cons, List.getElem?_append_left (by rw [he]; exact hjk)]
      exact hj
    | succ i =>
      rw [List.getElem?_cons_succ] at hi
      rw [List.flatMap_cons, List.getElem?_append_right (by rw [he, Nat.succ_mul]; omega), he]
      have := ih i hi
      rwa [show (i + 1) * k + j - k = i * k + j from by rw [Nat.succ_mul]; omega]
theorem Sl.lit (w : World) (cs : Array Value) (e : TypeId) (xs : List α) (hc : cs.toList = xs.flatMap enc) (he : ∀ x, (enc x).length = k) :
    Sl enc k (w.alloc (.cells cs e)) (w.heap.size + 1) (some ⟨w.heap.size, 0, none⟩) xs.length xs := by
  refine ⟨rfl, fun _ => ⟨_, 0, rfl, Nat.lt_succ_self _, fun i x hi j u hj => ?_⟩⟩
  have hcell : (w.alloc (.cells cs e)).cell? ⟨w.heap.size, 0 + i * k + j, none⟩ = cs[0 + i * k + j]? :=
    cell_of_row _ _ _ cs e (0, 0) (heap_alloc_new w _)
  rw [hcell, Nat.zero_add, ← Array.getElem?_toList, hc]
  exact flat_get he xs i j x u hi hj
theorem Own.nil : Own enc k e w base (.slice none 0 0) ([] : List α) := World.ownsRow_nil w base e k
theorem Own.form (h : Own enc k e w base v xs) : ∃ A c, v = .slice A xs.length c ∧ xs.length ≤ c ∧ c ≤ maxLen ∧ (A = none → c = 0) ∧ (∀ g, v.ownBlock = some g → A = some ⟨g, 0, none⟩ ∧ base ≤ g ∧ g < w.heap.size) := by
  have hlt := World.ownsRow.lt h
  rcases h.2 with ⟨rfl, h0⟩ | ⟨g, cap, cur, rfl, hb, hg, hc, hm, _⟩
  · exact ⟨none, 0, by rw [h0], by omega, by simp [maxLen], fun _ => rfl, fun g hg => by simp [Value.ownBlock] at hg⟩
  · exact ⟨_, cap, rfl, hc, hm, fun h => (by cases h), fun g' hg' => by
      have := hlt g' hg'
      simp only [Value.ownBlock, Option.some.injEq] at hg'
      subst hg'
      exact ⟨rfl, this⟩⟩
theorem Own.facts {c : Nat} (h : Own enc k e w base (.slice A n c) xs) : n = xs.length ∧ xs.length ≤ c ∧ c ≤ maxLen ∧ ((A = none ∧ c = 0 ∧ xs = []) ∨ ∃ g, A = some ⟨g, 0, none⟩ ∧ base ≤ g ∧ g < w.heap.size) := by
  obtain ⟨A', c', hv, h1, h2, h3, h4⟩ := h.form
  injection hv with e1 e2 e3
  subst e1; subst e3
  refine ⟨e2, h1, h2, ?_⟩
  cases A with
  | none => have := h3 rfl; subst this; exact .inl ⟨rfl, rfl, List.eq_nil_of_length_eq_zero (by omega)⟩
  | some ad => obtain ⟨a1, a2, a3⟩ := h4 ad.block rfl; exact .inr ⟨_, a1, a2, a3⟩
theorem Own.sl (he : ∀ x, (enc x).length = k) {c : Nat} (h : Own enc k e w base (.slice A n c) xs) : Sl enc k w w.heap.size A n xs := by
  have hh : w.ownsRow base e k (.slice A n c) xs.length (xs.flatMap enc) := h
  have hn : n = xs.length := by
    obtain ⟨A', c', hv, _⟩ := h.form
    injection hv
  subst hn
  refine ⟨rfl, fun hn => ?_⟩
  obtain ⟨g, cap, hv, _, hlt⟩ := World.ownsRow.form hh hn
  have hA : A = some ⟨g, 0, none⟩ := by injection hv
  subst hA
  refine ⟨g, 0, rfl, hlt, fun i x hi j u hj => ?_⟩
  have := World.ownsRow.cells hh (g := g) rfl (i * k + j) u (flat_get he xs i j x u hi hj)
  rw [Addr.add_lit] at this
  rw [show 0 + i * k + j = 0 + (i * k + j) from by omega]
  exact this
theorem Own.below (h : Own enc k e w base v xs) (hb : Below w.heap.size w w') : Own enc k e w' base v xs := by
  refine World.ownsRow.kept h (row := none) ⟨hb.os, hb.tape, hb.output, hb.size, fun i hi _ => hb.block i hi⟩ ?_
  cases hv : v.ownBlock with
  | none => exact .inl rfl
  | some g => exact .inr (by simp)
theorem Own.alloc (h : Own enc k e w base v xs) (o : Obj) : Own enc k e (w.alloc o) base v xs := World.ownsRow.alloc h o
theorem Own.drew (h : Own enc k e w base v xs) : Own enc k e w.drew base v xs := h
theorem Own.drewN (h : Own enc k e w base v xs) (m : Nat) : Own enc k e (w.drewN m) base v xs := h
theorem Own.base_ {base' : Nat} (h : Own enc k e w base v xs) (hb : base' ≤ base) : Own enc k e w base' v xs := by
  refine ⟨h.1, ?_⟩
  rcases h.2 with h0 | ⟨g, cap, cur, hv, hbg, r⟩
  · exact .inl h0
  · exact .inr ⟨g, cap, cur, hv, Nat.le_trans hb hbg, r⟩
theorem Own.far (h : Own enc k e w base v xs) {p : Addr} (hp : v.ownBlock ≠ some p.block) (u : Value) : Own enc k e (w.setCell p u) base v xs := by
  refine ⟨h.1, ?_⟩
  rcases h.2 with h0 | ⟨g, cap, cur, rfl, hbg, hg, r⟩
  · exact .inl h0
  · refine .inr ⟨g, cap, cur, rfl, hbg, ?_, r⟩
    rw [Below.heap_setCell w p u g (fun e => hp (by simp [Value.ownBlock, e]))]
    exact hg
theorem Own.grown {row : Option Nat} (h : Own enc k e w base v xs) (hg : w.grownBy w' row) (hne : v.ownBlock = none ∨ v.ownBlock ≠ row) : Own enc k e w' base v xs := World.ownsRow.kept h hg hne
theorem flat_set (he : ∀ x, (enc x).length = k) (xs : List α) (i j : Nat) (x y : α) (u : Value) (hi : xs[i]? = some x) (hj : j < k) (hy : enc y = (enc x).set j u) :
    (xs.set i y).flatMap enc = (xs.flatMap enc).set (i * k + j) u := by
  induction xs generalizing i with
  | nil => simp at hi
  | cons a xs ih =>
    cases i with
    | zero =>
      simp only [List.getElem?_cons_zero, Option.some.injEq] at hi
      subst hi
      rw [List.set_cons_zero, List.flatMap_cons, List.flatMap_cons, hy, Nat.zero_mul, Nat.zero_add, List.set_append_left _ _ (by rw [he]; exact hj)]
    | succ i =>
      rw [List.getElem?_cons_succ] at hi
      rw [List.set_cons_succ, List.flatMap_cons, List.flatMap_cons, ih i hi, List.set_append_right _ _ (by rw [he, Nat.succ_mul]; omega), he]
      rw [show (i + 1) * k + j - k = i * k + j from by rw [Nat.succ_mul]; omega]
theorem Own.set_ (he : ∀ x, (enc x).length = k) {g c i j : Nat} {x y : α} {u : Value} (h : Own enc k e w base (.slice (some ⟨g, 0, none⟩) n c) xs) (hi : xs[i]? = some x) (hj : j < k) (hy : enc y = (enc x).set j u) :
    Own enc k e (w.setCell ⟨g, i * k + j, none⟩ u) base (.slice (some ⟨g, 0, none⟩) n c) (xs.set i y) := by
  have hn := h.facts.1
  subst hn
  show World.ownsRow _ _ _ _ _ (xs.set i y).length ((xs.set i y).flatMap enc)
  rw [List.length_set, flat_set he xs i j x y u hi hj hy]
  exact (World.ownsRow.stored h (i * k + j) u).1
theorem Own.frozen {g c : Nat} (h : Own enc k e w base (.slice (some ⟨g, 0, none⟩) n c) xs) (j : Nat) : w.frozen? ⟨g, j, none⟩ = false := by
  have hn := h.facts.1
  subst hn
  exact World.ownsRow.frozenAt h j
theorem flat_take (he : ∀ x, (enc x).length = k) (xs : List α) (m : Nat) : (xs.take m).flatMap enc = (xs.flatMap enc).take (m * k) := by
  induction xs generalizing m with
  | nil => simp
  | cons a xs ih =>
    cases m with
    | zero => simp
    | succ m => rw [List.take_succ_cons, List.flatMap_cons, List.flatMap_cons, ih m, List.take_append, he, List.take_of_length_le (l := enc a) (by rw [he, Nat.succ_mul]; omega), show (m + 1) * k - k = m * k from by rw [Nat.succ_mul]; omega]
theorem Own.shrink (he : ∀ x, (enc x).length = k) {g c m : Nat} (h : Own enc k e w base (.slice (some ⟨g, 0, none⟩) n c) xs) (hm : m ≤ xs.length) : Own enc k e w base (.slice (some ⟨g, 0, none⟩) m c) (xs.take m) := by
  have hn := h.facts.1
  subst hn
  have hl : (xs.take m).length = m := by rw [List.length_take]; omega
  refine ⟨by rw [flat_len he], ?_⟩
  rcases h.2 with ⟨h0, _⟩ | ⟨g', cap, cur, hv, hb, hg, hnc, hcm, hcs, ht⟩
  · cases h0
  · injection hv with a1 a2 a3
    injection a1 with a1
    injection a1 with a1
    subst a1; subst a3
    refine .inr ⟨g, c, cur, by rw [hl], hb, hg, by omega, hcm, hcs, ?_⟩
    rw [flat_take he, hl, ← ht, List.take_take]
    rw [Nat.min_eq_left (Nat.mul_le_mul_right _ hm)]
theorem Own.ne {β : Type} {enc' : β → List Value} {k' base' : Nat} {e' : TypeId} {v' : Value} {ys' : List β} (h : Own enc k e w base v xs) (h' : Own enc' k' e' w base' v' ys') (hne : e ≠ e') : v.ownBlock = none ∨ v.ownBlock ≠ v'.ownBlock := by
  rcases h.2 with ⟨rfl, _⟩ | ⟨g, cap, cur, rfl, _, hg, _⟩
  · exact .inl rfl
  · right
    rcases h'.2 with ⟨rfl, _⟩ | ⟨g', cap', cur', rfl, _, hg', _⟩
    · simp [Value.ownBlock]
    · intro hh
      simp only [Value.ownBlock, Option.some.injEq] at hh
      subst hh
      rw [hg] at hg'
      injection hg' with hg'
      injection hg' with _ ht
      exact hne ht
def ElemT (P : Program) (t e : TypeId) (k bytes : Nat) : Prop :=
  ∃ i z, P.underlying t = some (.slice e) ∧ P.info? e = some i ∧ i.zero = some z ∧ i.size = k ∧ i.bytes = bytes ∧ z.cells.size = k ∧ 0 < k ∧ bytes ≤ 1024
theorem elemT_of {P : Program} {t e : TypeId} {k bytes : Nat} (hu : P.underlying t = some (.slice e)) (h : (P.info? e).map (fun i => (i.zero.map (fun z => z.cells.size), i.size, i.bytes)) = some (some k, k, bytes)) (hk : 0 < k) (hb : bytes ≤ 1024) : ElemT P t e k bytes := by
  cases hi : P.info? e with
  | none => rw [hi] at h; cases h
  | some i =>
    rw [hi] at h
    simp only [Option.map_some, Option.some.injEq, Prod.mk.injEq] at h
    obtain ⟨h1, h2, h3⟩ := h
    cases hz : i.zero with
    | none => rw [hz] at h1; cases h1
    | some z =>
      rw [hz] at h1
      simp only [Option.map_some, Option.some.injEq] at h1
      exact ⟨i, z, hu, hi, hz, h2, h3, h1, hk, hb⟩
section
variable {P : Program} (w : World)
theorem run_app (t ty : TypeId) {bytes : Nat} (hT : ElemT P t e k bytes) (he : ∀ x, (enc x).length = k) (h1 : ∀ x, ∀ u ∈ enc x, u.oneCell' = true)
    (v : Value) (xs : List α) (hown : Own enc k e w base v xs) (B : Nat) (A : Option Addr) (m c : Nat) (ys : List α) (hr : Sl enc k w B A m ys)
    (hlen : xs.length + m ≤ 100000000000) (hbase : base ≤ w.heap.size) :
    ∃ A' c' w', (Builtin.append_ #[t, t] ty #[v, .slice A m c]).run P w = .ok (.slice A' (xs.length + m) c') w' ∧ Own enc k e w' base (.slice A' (xs.length + m) c') (xs ++ ys) ∧ w.grownBy w' v.ownBlock ∧
      (A'.map Addr.block = v.ownBlock ∨ A'.map Addr.block = some w.heap.size) := by
  obtain ⟨i, z, ht, hi, hz, hsize, hby, hzs, hsz, hb⟩ := hT
  have hown' : w.ownsRow base e k v xs.length (xs.flatMap enc) := hown
  by_cases hm : m = 0
  · subst hm
    obtain rfl : ys = [] := List.eq_nil_of_length_eq_zero hr.1.symm
    obtain ⟨A0, c0, rfl, hc0, _⟩ := hown.form
    have hrun : (Builtin.append_ #[t, t] ty #[.slice A0 xs.length c0, .slice A 0 c]).run P w = .ok (.slice A0 xs.length c0) w := by
      rcases hown.2 with ⟨hv, h0⟩ | ⟨g, cap, cur, hv, _, hg, hnc, hcm, hcs, _⟩
      · injection hv with a1 a2 a3
        subst a1; subst a3
        rw [h0]
        cases A <;> simp [Builtin.append_, run_underlying ht, sizeOf, typeInfo, hi, Builtin.lenOf, Builtin.firstCells, loadCells, loadCellsFrom, Result.andThen]
      · injection hv with a1 a2 a3
        subst a1; subst a3
        cases A <;> simp [Builtin.append_, run_underlying ht, sizeOf, typeInfo, hi, Builtin.lenOf, Builtin.firstCells, loadCells, loadCellsFrom, Result.andThen, hnc, storeCells]
    exact ⟨A0, c0, w, hrun, by simpa using hown, World.grownBy.refl w _, .inl (by cases A0 <;> rfl)⟩
  · obtain ⟨b, off, rfl, hbB, hc⟩ := hr.2 (by omega)
    have hl : (ys.flatMap enc).length = m * k := by rw [flat_len he, hr.1]
    have hnews : ∀ j u, (ys.flatMap enc)[j]? = some u → w.cell? ((⟨b, off, none⟩ : Addr).add j) = some u := by
      intro j u hu
      obtain ⟨i', x, j', hi', hj', rfl⟩ := flat_at he ys j u hu
      have := hc i' x hi' j' u hj'
      unfold Addr.add
      split
      · rename_i h0; rw [Nat.add_assoc, h0] at this; exact this
      · rw [← Nat.add_assoc]; exact this
    have hone : ∀ u ∈ ys.flatMap enc, u.oneCell' = true := by
      intro u hu
      rw [List.mem_flatMap] at hu
      obtain ⟨x, _, hx⟩ := hu
      exact h1 x u hx
    have hbt : (xs.length + m) * bytes ≤ 140737488355328 := Nat.le_trans (Nat.mul_le_mul hlen hb) (by decide)
    obtain ⟨v', w', hrun, h2, h3, _, h5⟩ := run_append_own_at (P := P) w base t ty e i z k bytes ht hi hz hsize hby hzs hsz v xs.length (xs.flatMap enc) hown' ⟨b, off, none⟩ m c (ys.flatMap enc) hl hnews hone (by unfold maxLen; omega) hbt hbase
    have hO : Own enc k e w' base v' (xs ++ ys) := by
      show w'.ownsRow base e k v' (xs ++ ys).length ((xs ++ ys).flatMap enc)
      rw [List.length_append, ← hr.1, List.flatMap_append]
      exact h2
    obtain ⟨A', c', hv', _⟩ := hO.form
    rw [List.length_append, ← hr.1] at hv'
    subst hv'
    refine ⟨A', c', w', hrun, hO, h3, ?_⟩
    rcases h5 with h5 | h5
    · left; rw [← h5]; cases A' <;> rfl
    · right; rw [← h5]; cases A' <;> rfl
theorem wp_app {o : Oper} {a : Act} {K : Act → World → Prop} {Q : Exit → Act → World → Prop} (s x : Operand) (t : TypeId)
    (ho : o.op = .call { callee := .builtin .append, args := #[s, x], argTypes := #[t, t] }) {bytes : Nat} (hT : ElemT P t e k bytes) (he : ∀ x, (enc x).length = k) (h1 : ∀ x, ∀ u ∈ enc x, u.oneCell' = true)
    (v : Value) (xs : List α) (hs : a.eval s = v) (hown : Own enc k e w base v xs) (B : Nat) (A : Option Addr) (m c : Nat) (ys : List α) (hx : a.eval x = .slice A m c) (hr : Sl enc k w B A m ys)
    (hlen : xs.length + m ≤ 100000000000) (hbase : base ≤ w.heap.size)
    (h : ∀ A' c' w', Own enc k e w' base (.slice A' (xs.length + m) c') (xs ++ ys) → w.grownBy w' v.ownBlock → (A'.map Addr.block = v.ownBlock ∨ A'.map Addr.block = some w.heap.size) → K (a.put o.dst (.slice A' (xs.length + m) c')) w') : o.wp P a w K Q := by
  obtain ⟨A', c', w', hrun, h2, h3, h4⟩ := run_app (P := P) w t o.type hT he h1 v xs hown B A m c ys hr hlen hbase
  unfold Oper.wp execOp
  simp only [ho, resolve, invoke, builtin, Sem.run_bind, Sem.run_pure, Result.andThen_ok, List.map_toArray, List.map_cons, List.map_nil, hs, hx, hrun]
  exact h A' c' w' h2 h3 h4
theorem wpList_app {ops : Array Oper} {rest : List Oper} {o : Oper} {a : Act} {Q : Exit → Act → World → Prop} (hgd : o.guard = none) (s x : Operand) (t : TypeId)
    (ho : o.op = .call { callee := .builtin .append, args := #[s, x], argTypes := #[t, t] }) {bytes : Nat} (hT : ElemT P t e k bytes) (he : ∀ x, (enc x).length = k) (h1 : ∀ x, ∀ u ∈ enc x, u.oneCell' = true)
    (v : Value) (xs : List α) (hs : a.eval s = v) (hown : Own enc k e w base v xs) (B : Nat) (A : Option Addr) (m c : Nat) (ys : List α) (hx : a.eval x = .slice A m c) (hr : Sl enc k w B A m ys)
    (hlen : xs.length + m ≤ 100000000000) (hbase : base ≤ w.heap.size)
    (h : ∀ A' c' w', Own enc k e w' base (.slice A' (xs.length + m) c') (xs ++ ys) → w.grownBy w' v.ownBlock → (A'.map Addr.block = v.ownBlock ∨ A'.map Addr.block = some w.heap.size) → wpList P ops Q rest (a.put o.dst (.slice A' (xs.length + m) c')) w') : wpList P ops Q (o :: rest) a w :=
  wpList_plain hgd fun _ hK => wp_app w s x t ho hT he h1 v xs hs hown B A m c ys hx hr hlen hbase fun A' c' w' h2 h3 h4 => hK _ _ (h A' c' w' h2 h3 h4)
theorem step_app {ops : Array Oper} {o : Oper} {a : Act} {K : Act → World → Prop} {Q : Exit → Act → World → Prop} {E : Prop} (hgd : o.guard = none) (s x : Operand) (t : TypeId)
    (ho : o.op = .call { callee := .builtin .append, args := #[s, x], argTypes := #[t, t] }) {bytes : Nat} (hT : ElemT P t e k bytes) (he : ∀ x, (enc x).length = k) (h1 : ∀ x, ∀ u ∈ enc x, u.oneCell' = true)
    (v : Value) (xs : List α) (hs : a.eval s = v) (hown : Own enc k e w base v xs) (B : Nat) (A : Option Addr) (m c : Nat) (ys : List α) (hx : a.eval x = .slice A m c) (hr : Sl enc k w B A m ys)
    (hlen : xs.length + m ≤ 100000000000) (hbase : base ≤ w.heap.size)
    (h : ∀ A' c' w', Own enc k e w' base (.slice A' (xs.length + m) c') (xs ++ ys) → w.grownBy w' v.ownBlock → (A'.map Addr.block = v.ownBlock ∨ A'.map Addr.block = some w.heap.size) → K (a.put o.dst (.slice A' (xs.length + m) c')) w') :
    if Region.wanted o (yielded ops a.tmps) = true then Oper.wp P o a w K Q else E := by
  have hw : Region.wanted o (yielded ops a.tmps) = true := by simp [Region.wanted, hgd]
  rw [if_pos hw]
  exact wp_app w s x t ho hT he h1 v xs hs hown B A m c ys hx hr hlen hbase h
end
theorem bdN {B : Nat} {w0 w1 : World} (h : Below B w0 w1) (n : Nat) : Below B w0 (w1.drewN n) := ⟨h.os, h.tape, h.output, h.size, h.block⟩
theorem below_grown {B : Nat} {w0 w1 w2 : World} {row : Option Nat} (h : Below B w0 w1) (hg : w1.grownBy w2 row) (hB : B ≤ w1.heap.size) (hr : ∀ g, row = some g → B ≤ g) : Below B w0 w2 := h.grown hg hB hr
theorem Own.lit (w : World) (cs : Array Value) (e : TypeId) (xs : List α) (hc : cs.toList = xs.flatMap enc) (he : ∀ x, (enc x).length = k) (hb : base ≤ w.heap.size) (hm : xs.length ≤ maxLen) :
    Own enc k e (w.alloc (.cells cs e)) base (.slice (some ⟨w.heap.size, 0, none⟩) xs.length xs.length) xs := by
  have hsz : cs.size = xs.length * k := by rw [← flat_len he xs, ← hc]; simp
  refine ⟨flat_len he xs, .inr ⟨w.heap.size, xs.length, cs, rfl, hb, heap_alloc_new w _, Nat.le_refl _, hm, hsz, ?_⟩⟩
  rw [hc, ← flat_len he xs, List.take_length]
theorem Sl.take (h : Sl enc k w B A n xs) {m : Nat} (hm : m ≤ n) : Sl enc k w B A m (xs.take m) :=
  ⟨by rw [List.length_take]; have := h.1; omega, fun hn => by
    obtain ⟨b, off, e, hb, hc⟩ := h.2 (by omega)
    refine ⟨b, off, e, hb, fun i x hi j u hj => hc i x ?_ j u hj⟩
    have hi' := (List.getElem?_eq_some_iff.1 hi).1
    rw [List.length_take] at hi'
    rw [List.getElem?_take_of_lt (by omega)] at hi
    exact hi⟩
theorem Sl.drop {b off : Nat} (h : Sl enc k w B (some ⟨b, off, none⟩) n xs) {m : Nat} (hm : m ≤ n) : Sl enc k w B (some ⟨b, off + m * k, none⟩) (n - m) (xs.drop m) :=
  ⟨by rw [List.length_drop]; have := h.1; omega, fun hn => by
    obtain ⟨b', off', e, hb, hc⟩ := h.2 (by omega)
    injection e with e
    injection e with e1 e2
    subst e1; subst e2
    refine ⟨b, off + m * k, rfl, hb, fun i x hi j u hj => ?_⟩
    rw [List.getElem?_drop] at hi
    have := hc (m + i) x hi j u hj
    rwa [Nat.add_mul, ← Nat.add_assoc] at this⟩
theorem Sl.grown {row : Option Nat} (h : Sl enc k w B A n xs) (hg : w.grownBy w' row) (hB : B ≤ w.heap.size) (hr : ∀ g, row = some g → B ≤ g) : Sl enc k w' B A n xs :=
  h.keep fun p hp => World.cell?_of_block (hg.block p.block (by omega) (fun e => by have := hr _ e.symm; omega))
theorem Sl.drewN (h : Sl enc k w B A n xs) (m : Nat) : Sl enc k (w.drewN m) B A n xs := h
theorem Sl.drew (h : Sl enc k w B A n xs) : Sl enc k w.drew B A n xs := h
theorem Sl.alloc (h : Sl enc k w B A n xs) (hB : B ≤ w.heap.size) (o : Obj) : Sl enc k (w.alloc o) B A n xs := h.keep fun p hp => World.cell?_alloc_lt w o p (by omega)
def RetOwn (enc : α → List Value) (k : Nat) (e : TypeId) (base : Nat) (w : World) (xs : List α) (en : Ending) (w' : World) : Prop :=
  ∃ A c, en = .returned (.slice A xs.length c) ∧ Own enc k e w' base (.slice A xs.length c) xs ∧ Below w.heap.size w w'
def RetOwn2 (enc : α → List Value) (k : Nat) (e : TypeId) (base : Nat) (w : World) (r : List α × Int) (en : Ending) (w' : World) : Prop :=
  ∃ A c, en = .returned (.tuple #[.slice A r.1.length c, .int .i64 r.2]) ∧ Own enc k e w' base (.slice A r.1.length c) r.1 ∧ Below w.heap.size w w'
theorem RetOwn2.mk {A : Option Addr} {c : Nat} {er : Int} {r : List α × Int} {en : Ending} (h : en = .returned (.tuple #[.slice A n c, .int .i64 er])) (hr : r = (xs, er)) (ho : Own enc k e w' base (.slice A n c) xs) (hb : Below w.heap.size w w') : RetOwn2 enc k e base w r en w' := by
  obtain ⟨A', c', hv, _⟩ := ho.form
  injection hv with _ hn _
  subst hn; subst hr
  exact ⟨A, c, h, ho, hb⟩
theorem RetOwn.mk {A : Option Addr} {c : Nat} {en : Ending} (h : en = .returned (.slice A n c)) (ho : Own enc k e w' base (.slice A n c) xs) (hb : Below w.heap.size w w') : RetOwn enc k e base w xs en w' := by
  obtain ⟨A', c', hv, _⟩ := ho.form
  injection hv with _ hn _
  subst hn
  exact ⟨A, c, h, ho, hb⟩
end
end Go.Proofs.YtpnncoinlopndaaGreatDoor

