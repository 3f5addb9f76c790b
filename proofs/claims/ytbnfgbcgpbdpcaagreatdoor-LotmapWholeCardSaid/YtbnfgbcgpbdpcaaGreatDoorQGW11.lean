/- Merged texts: Sx, Sc, Pr. -/
import Derived.Test.YtbnfgbcgpbdpcaaGreatDoorQGW1
import Derived.Test.YtbnfgbcgpbdpcaaGreatDoorDw
import Derived.Test.YtbnfgbcgpbdpcaaGreatDoorQGW9
import Derived.Shelf.SlSortCmp.NoneTotal
import Derived.Sort.OwnSorted
import Derived.Test.YtbnfgbcgpbdpcaaGreatDoorShelf
import Derived.Test.YtbnfgbcgpbdpcaaGreatDoorQGW10
import Derived.Deep.RegionHeld3
import Derived.Test.YtbnfgbcgpbdpcaaGreatDoorQGW8
import Derived.Test.YtbnfgbcgpbdpcaaGreatDoorQGW4
import Derived.Test.YtbnfgbcgpbdpcaaGreatDoorNNqGW
/- Sorting a slice of indices by slices.SortFunc, the comparison being a function that turns nothing (Below): plain. -/
namespace Go.Proofs.YtbnfgbcgpbdpcaaGreatDoor
open Go.RowKit Go.Shelf Go.Sort

/-- What the comparison of two indices gives: the greater rest first, then the lesser index. -/
def cmpI (rs : List Int) (i k : Nat) : Int := if sgnI (rs.getD k 0 - rs.getD i 0) ≠ 0 then sgnI (rs.getD k 0 - rs.getD i 0) else Lib.compareInt i k
def encF (n : Nat) (i : Fin n) : Value := .int .i64 (i.val : Nat)
def cmpF (rs : List Int) (n : Nat) (x y : Fin n) : Int := cmpI rs x.val y.val
theorem ltF (rs : List Int) (n : Nat) (x y : Fin n) : ltOf (cmpF rs n) x y = !befB rs y.val x.val := by
  unfold ltOf cmpF cmpI befB sgnI Lib.compareInt
  generalize rs.getD x.val 0 = a
  generalize rs.getD y.val 0 = b
  rw [Bool.eq_iff_iff]
  simp only [decide_eq_true_eq, Bool.not_eq_true', decide_eq_false_iff_not]
  repeat' split
  all_goals omega
theorem swoF (rs : List Int) (n : Nat) : SWO (ltOf (cmpF rs n)) where
  irrefl x := by rw [ltF]; unfold befB; simp
  trans x y z h1 h2 := by rw [ltF] at *; unfold befB at *; simp only [Bool.not_eq_true', decide_eq_false_iff_not] at *; omega
  ntrans x y z h1 h2 := by rw [ltF] at *; unfold befB at *; simp only [Bool.not_eq_false', decide_eq_true_eq] at *; omega
theorem totF (rs : List Int) (n : Nat) (x y : Fin n) (h1 : ltOf (cmpF rs n) x y = false) (h2 : ltOf (cmpF rs n) y x = false) : x = y := by
  rw [ltF] at *
  unfold befB at *
  simp only [Bool.not_eq_false', decide_eq_true_eq] at *
  apply Fin.ext
  omega
/-- All indices. -/
def allF (n : Nat) : Array (Fin n) := (List.finRange n).toArray
theorem allF_size (n : Nat) : (allF n).size = n := by simp [allF]
theorem allF_val (n : Nat) : (allF n).toList.map Fin.val = List.range n := by
  unfold allF
  refine List.ext_getElem (by simp) fun i h1 h2 => ?_
  simp
theorem sorted_val (rs : List Int) (n : Nat) (hn : rs.length = n) : ((allF n).toList.mergeSort fun x y => !ltOf (cmpF rs n) y x).map Fin.val = ordL rs := by
  unfold ordL
  rw [List.map_mergeSort (s := befB rs), allF_val, hn]
  intro a _ b _
  rw [ltF]; simp
def idxV (l : List Nat) : Array Value := (l.map fun k => Value.int .i64 (k : Nat)).toArray
theorem holds_all (n : Nat) [Inhabited (Fin n)] {w : World} {p : Nat} {T : TypeId} (hB : BlkB w p (idxV (List.range n)) T) : Holds (encF n) w p 0 (allF n) := by
  intro j hj
  rw [allF_size] at hj
  refine ⟨?_, hB.frozen _⟩
  rw [Nat.zero_add]
  refine hB.cell j ?_
  have h1 : (allF n)[j]! = ⟨j, hj⟩ := by
    rw [getElem!_pos _ j (by rw [allF_size]; exact hj)]
    simp [allF]
  rw [h1]
  simp [idxV, encF, hj]
theorem putCells_all (n : Nat) [Inhabited (Fin n)] (cur : Array Value) (l : List (Fin n)) (hc : cur.size = n) (hl : l.length = n) : putCells (encF n) 0 l.toArray cur = idxV (l.map Fin.val) := by
  apply Array.ext_getElem?
  intro k
  simp only [putCells, Array.getElem?_mapIdx, idxV, List.getElem?_toArray, List.getElem?_map, List.map_map]
  by_cases hk : k < n
  · have h1 : cur[k]? = some cur[k] := Array.getElem?_eq_getElem (by omega)
    rw [h1]
    have h2 : l[k]? = some l[k] := List.getElem?_eq_getElem (by omega)
    simp only [Option.map_some, Nat.zero_le, true_and, Nat.zero_add, Nat.sub_zero, h2]
    rw [if_pos (by simp; omega)]
    have h3 : l.toArray[k]! = l[k] := by rw [getElem!_pos _ k (by simp; omega)]; simp
    rw [h3]
    rfl
  · rw [Array.getElem?_eq_none (by omega), List.getElem?_eq_none (by omega)]
    rfl
theorem grownBy_sortF (n : Nat) [Inhabited (Fin n)] {w : World} {g m : Nat} {os : Array Obj} (d : Array (Fin n)) : w.grownBy (sortWorld (encF n) w g 0 m d os) (some g) := by
  refine ⟨rfl, rfl, rfl, by simp [sortWorld], fun k hk hne => ?_⟩
  unfold sortWorld
  rw [heap_grow_old _ _ (by simpa using hk)]
  have : g ≠ k := fun e => hne (by rw [e])
  simp [putRow, mapBlock, Sort.ahead, Array.getElem?_modify, this]
theorem blk_sortF (n : Nat) [Inhabited (Fin n)] {w : World} {p m : Nat} {T : TypeId} {cur : Array Value} {os : Array Obj} (l : List (Fin n)) (hB : BlkB w p cur T) (hc : cur.size = n) (hl : l.length = n) : BlkB (sortWorld (encF n) w p 0 m l.toArray os) p (idxV (l.map Fin.val)) T := by
  unfold BlkB sortWorld
  have hg := hB.lt
  rw [heap_grow_old _ _ (by simpa using hg)]
  unfold BlkB at hB
  simp only [putRow, mapBlock, Sort.ahead, Array.getElem?_modify, hB, onCells, if_pos, Option.map_some]
  rw [putCells_all n cur l hc hl]
theorem below_of_grownBy {w w' : World} {B p : Nat} (h : w.grownBy w' (some p)) (hB : B ≤ p) (hs : B ≤ w.heap.size) : Below B w w' :=
  ⟨h.os, h.tape, h.output, h.size, fun k hk => h.block k (by omega) (fun e => by injection e with e; omega)⟩
/-- slices.SortFunc ON ALL INDICES. -/
theorem sort_idx {P : Program} {ρ : Ren} (L : SlLaysF.n6 P ρ) (g : Nat) (cb : Array Value) (rs : List Int) (n p cap : Nat) (W : World) (T : TypeId) (hn : rs.length = n) (h0 : 0 < n) (h1 : n < 4611686018427387904)
    (eg : ∀ args w, (callFunc g args).run P w = .ok (.enter g args) w) (hB : BlkB W p (idxV (List.range n)) T)
    (hcmp : ∀ W', W.grownBy W' (some p) → ∀ x y : Nat, x < n → y < n → Calls P g (#[.int .i64 x, .int .i64 y] ++ cb) W' fun e w' => e = .returned (.int .i64 (cmpI rs x y)) ∧ Below W'.heap.size W' w') :
    Calls P (ρ.f 6) #[.slice (some ⟨p, 0, none⟩) n cap, .func (.func g) #[] cb] W fun e w' => e = .returned (.tuple #[]) ∧ W.grownBy w' (some p) ∧ BlkB w' p (idxV (ordL rs)) T := by
  obtain ⟨m, rfl⟩ : ∃ m, n = m + 1 := ⟨n - 1, by omega⟩
  have hsz := allF_size (m + 1)
  have h := Any.slices_SortFunc_total L (encF (m + 1)) (fun _ => rfl) (cmpF rs (m + 1)) (swoF rs (m + 1)) g cb p 0 cap (allF (m + 1)) W eg
    (fun q os dk _ x y => by
      have h2 := calls_drawn (hcmp (sortWorld (encF (m + 1)) W p 0 q dk os) (grownBy_sortF (m + 1) dk) x.val y.val x.isLt y.isLt) (fun w' hw => by cases hw.1)
      refine h2.mono fun e w' h3 => ⟨h3.1.1, grow_of_below h3.1.2 h3.2⟩)
    (holds_all (m + 1) hB) hB.lt (by rw [hsz]; exact h1) (totF rs (m + 1))
  rw [hsz] at h
  refine h.mono ?_
  rintro e w' ⟨he, q, os, rfl⟩
  refine ⟨he, grownBy_sortF (m + 1) _, ?_⟩
  have h3 := blk_sortF (m + 1) (w := W) (p := p) (m := q) (T := T) (os := os) ((allF (m + 1)).toList.mergeSort fun x y => !ltOf (cmpF rs (m + 1)) y x) hB (by simp [idxV]) (by simp [hsz])
  rw [sorted_val rs (m + 1) hn] at h3
  exact h3
section
variable {w W W' : World} {p i : Nat} {cs ds : Array Value} {T : TypeId} {bs : List (Nat × Array Value × TypeId)}
/-- One of the call's own rows was turned. -/
theorem Kp.grown (h : Kp w bs W) (hg : W.grownBy W' (some p)) (hb : bs[i]? = some (p, cs, T)) (hd : BlkB W' p ds T) : Kp w (bs.set i (p, ds, T)) W' := by
  have hm : (bs.set i (p, ds, T)).map (·.1) = bs.map (·.1) := by
    refine List.ext_getElem? fun k => ?_
    rw [List.getElem?_map, List.getElem?_map, List.getElem?_set]
    split
    · rename_i e
      subst e
      rw [hb]
      split
      · rfl
      · rename_i e2; exact absurd (List.getElem?_eq_some_iff.1 hb).1 e2
    · rfl
  refine ⟨h.pow, h.bl.trans (below_of_grownBy hg (h.old i hb) h.bl.size), ?_, by rw [hm]; exact h.ord, ?_⟩
  · intro b hx
    rcases List.mem_or_eq_of_mem_set hx with hx | rfl
    · exact h.own b hx
    · exact h.old i hb
  · intro b hx
    obtain ⟨k, hk⟩ := List.getElem?_of_mem hx
    rw [List.getElem?_set] at hk
    split at hk
    · split at hk
      · injection hk with hk
        subst hk
        exact hd
      · cases hk
    · rename_i hik
      obtain ⟨q, es, U⟩ := b
      have hq := h.at_ k hk
      have hne := h.ne k i hk hb (fun e => hik e.symm)
      exact (hg.block q hq.lt (fun e => hne (by injection e))).trans hq
end
end Go.Proofs.YtbnfgbcgpbdpcaaGreatDoor
/- The comparison of allocate.positive: cmp.Or of two comparisons. -/
namespace Go.Proofs.YtbnfgbcgpbdpcaaGreatDoor
open Go.RowKit Go.Shelf

set_option maxRecDepth 20000 in
theorem or_any (a b : Int) (bl : Nat) (w : World) (h0 : w.cell? ⟨bl, 0, none⟩ = some (.int .i64 a)) (h1 : w.cell? ⟨bl, 1, none⟩ = some (.int .i64 b)) : Calls Tryz.prog 193 #[.slice (some ⟨bl, 0, none⟩) 2 2] w fun e w' => e = .returned (.int .i64 (if a ≠ 0 then a else b)) ∧ Below w.heap.size w w' := by
  have HR := Lib.hid (show ∀ r : Int, (a ≠ 0 → r = a) → (a = 0 → r = b) → (if a ≠ 0 then a else b) = r by
    intro r h1 h2
    by_cases h : a = 0
    · rw [if_neg (by simp [h]), h2 h]
    · rw [if_pos h, h1 h])
  generalize (if a ≠ 0 then a else b) = res at *
  have HB := Lib.hid (Below.refl w.heap.size w)
  go_enter Tryz.func193, Tryz.ntmps193
  go_wp2_with fail
  go_loop [8] (fun i => ∃ k : Nat, k ≤ 2 ∧ i = .int .i64 k ∧ Hid (1 ≤ k → a = 0) ∧ Hid (2 ≤ k → b = 0)) (fun i => 2 - (intOf i).toNat)
  case atStart => exact ⟨0, by omega, rfl, fun h => by omega, fun h => by omega⟩
  case round =>
    obtain ⟨k, hk, rfl, HA, HBB⟩ := hrel
    by_cases hlt : k < 2
    · obtain rfl | rfl : k = 0 ∨ k = 1 := by omega
      · by_cases ha : a = 0
        · have hx : (a != 0) = false := by simp [ha]
          have HA0 := Lib.hid ha
          clear ha HA HBB hk hlt
          go_wp2
          go_round
          case rel => exact ⟨1, by omega, by go_num, fun _ => HA0.out, fun h => by omega⟩
          case measure => simp [intOf]
        · have hx : (a != 0) = true := by simp [ha]
          have HE := Lib.hid (HR.out a (fun _ => rfl) (fun h => absurd h ha))
          clear ha HA HBB hk hlt
          go_wp2
          go_ret
          exact ⟨ret_int HE.out.symm, HB.out⟩
      · have HA0 := Lib.hid (HA.out (by omega))
        by_cases hb : b = 0
        · have hx : (b != 0) = false := by simp [hb]
          have HB0 := Lib.hid hb
          clear hb HA HBB hk hlt
          go_wp2
          go_round
          case rel => exact ⟨2, by omega, by go_num, fun _ => HA0.out, fun _ => HB0.out⟩
          case measure => simp [intOf]
        · have hx : (b != 0) = true := by simp [hb]
          have HE := Lib.hid (HR.out b (fun h => absurd HA0.out h) (fun _ => rfl))
          clear hb HA HBB hk hlt
          go_wp2
          go_ret
          exact ⟨ret_int HE.out.symm, HB.out⟩
    · obtain rfl : k = 2 := by omega
      have HE := Lib.hid (HR.out 0 (fun h => absurd (HA.out (by omega)) h) (fun _ => (HBB.out (by omega)).symm))
      clear HA HBB hk hlt
      go_wp2
      go_ret
      exact ⟨ret_int HE.out.symm, HB.out⟩
theorem or_new (a b : Int) (w : World) : Calls Tryz.prog 193 #[.slice (some ⟨w.heap.size, 0, none⟩) 2 2] (w.alloc (.cells #[.int .i64 a, .int .i64 b] 3)) fun e w' => e = .returned (.int .i64 (if a ≠ 0 then a else b)) ∧ Below w.heap.size w w' := by
  have hb := heap_alloc_new w (.cells #[.int .i64 a, .int .i64 b] 3)
  refine (or_any a b w.heap.size _ (cell_of_row _ _ 0 _ _ _ hb) (cell_of_row _ _ 1 _ _ _ hb)).mono ?_
  rintro e w' ⟨he, h⟩
  exact ⟨he, ((Below.refl w.heap.size w).alloc (Nat.le_refl _) _).trans (h.mono (by simp))⟩
set_option maxRecDepth 20000 in
set_option maxHeartbeats 1000000 in
theorem pos1_any (rs : List Int) (n R X : Nat) (i k : Nat) (hi : i < n) (hk : k < n) (hn : n ≤ 100000) (W : World) (hX : W.cell? ⟨X, 0, none⟩ = some (.slice (some ⟨R, 0, none⟩) n n)) (hR : ∀ j, j < n → W.cell? ⟨R, j, none⟩ = some (.string ⟨(txtL (rs.getD j 0)).toArray⟩)) (hl : ∀ j, (txtL (rs.getD j 0)).length ≤ 100000) :
    Calls Tryz.prog 192 (#[.int .i64 i, .int .i64 k] ++ #[.pointer (some ⟨X, 0, none⟩)]) W fun e w' => e = .returned (.int .i64 (cmpI rs i k)) ∧ Below W.heap.size W w' := by
  have HCM := Lib.hid (fun w => Compare_any (txtL (rs.getD k 0)) (txtL (rs.getD i 0)) w (hl k) (hl i))
  rw [val_txtL, val_txtL] at HCM
  have HCC := Lib.hid (fun w => Tryz.cmp_Compare_int i k w)
  have HRE := Lib.hid (show (if sgnI (rs.getD k 0 - rs.getD i 0) ≠ 0 then sgnI (rs.getD k 0 - rs.getD i 0) else Lib.compareInt i k) = cmpI rs i k from rfl)
  have HON := Lib.hid (fun w => or_new (sgnI (rs.getD k 0 - rs.getD i 0)) (Lib.compareInt i k) w)
  rw [HRE.out] at HON
  generalize cmpI rs i k = res at *
  have z1 := hR i hi
  have z2 := hR k hk
  have HZ := Lib.hid (show ∀ w', Below W.heap.size W w' → w'.cell? ⟨X, 0, none⟩ = some (.slice (some ⟨R, 0, none⟩) n n) ∧ w'.cell? ⟨R, i, none⟩ = some (.string ⟨(txtL (rs.getD i 0)).toArray⟩) ∧ w'.cell? ⟨R, k, none⟩ = some (.string ⟨(txtL (rs.getD k 0)).toArray⟩) from
    fun w' hb => ⟨(hb.cell (World.block_lt_of_cell? W _ hX)).trans hX, (hb.cell (World.block_lt_of_cell? W _ z1)).trans z1, (hb.cell (World.block_lt_of_cell? W _ z2)).trans z2⟩)
  generalize sgnI (rs.getD k 0 - rs.getD i 0) = aa at *
  generalize Lib.compareInt (i : Int) (k : Int) = bb at *
  generalize txtL (rs.getD i 0) = ti at *
  generalize txtL (rs.getD k 0) = tk at *
  clear hR hl HRE
  have HB := Lib.hid (Below.refl W.heap.size W)
  have i1 : (0 : Int) ≤ (i : Int) := by omega
  have i2 : (i : Int) < (n : Int) := by omega
  have k1 : (0 : Int) ≤ (k : Int) := by omega
  have k2 : (k : Int) < (n : Int) := by omega
  show Calls _ _ #[.int .i64 i, .int .i64 k, .pointer (some ⟨X, 0, none⟩)] _ _
  go_enter Tryz.func192, Tryz.ntmps192
  go_upto_region 1 with (fail)
  go_region_held3 (fun w' => w'.cell? ⟨X, 0, none⟩ = some (.slice (some ⟨R, 0, none⟩) n n) ∧ w'.cell? ⟨R, i, none⟩ = some (.string ⟨ti.toArray⟩) ∧ w'.cell? ⟨R, k, none⟩ = some (.string ⟨tk.toArray⟩))
    (first
      | exact HZ.out _ hz2
      | exact HZ.out _ hz
      | exact HZ.out _ (HB.out.alloc (Nat.le_refl _) _)
      | go_keep)
    (first
      | (go_at_call 41; refine (HCM.out _).mono ?_; rintro e w1 ⟨rfl, hb1⟩; have hz : Below W.heap.size W w1 := HB.out.drew.trans hb1)
      | (go_at_call 194; refine (HCC.out _).mono ?_; rintro e w2 ⟨rfl, rfl⟩)
      | (go_at_call 193; refine (HON.out _).mono ?_; rintro e w3 ⟨rfl, hb3⟩; have hz2 : Below W.heap.size W w3 := hz.trans (hb3.mono hz.size)))
  all_goals
    go_wp2_with fail
    first | go_ret | skip
    exact ⟨rfl, hz2⟩
end Go.Proofs.YtbnfgbcgpbdpcaaGreatDoor
/- Contracts of integer.Print, and of integer.Small at a small number. -/
namespace Go.Proofs.YtbnfgbcgpbdpcaaGreatDoor
open Go.RowKit Go.Shelf

/-- What Print gives. -/
def prtL (a : List UInt8) : List UInt8 := if canonL a = [] then [48] else canonL a
theorem prtL_nat (n : Nat) : prtL (txtL n) = if n = 0 then [48] else digs n := by
  have e : canonL (txtL n) = digs n := by rw [canon_val, val_txtL]; exact txtL_nat n
  unfold prtL
  rw [e]
  by_cases h : n = 0
  · subst h; rfl
  · rw [if_neg h, if_neg]
    intro e
    have := digs_pos n h
    rw [e] at this
    simp at this
theorem digs_len9 (n : Nat) (h : n < 100000000) : (digs n).length ≤ 9 := by
  have := txtL_length (n := (n : Int)) (L := 8) (by simpa using h)
  rw [txtL_nat] at this
  omega
theorem parse_prt (n : Nat) (h : n < 100000000) : Lib.parseIntB 64 (prtL (txtL n)) = .ok (n : Int) := by
  rw [prtL_nat]
  by_cases h0 : n = 0
  · subst h0; decide +kernel
  rw [if_neg h0]
  have hd := digs_dig n
  have hl := digs_len9 n h
  have hv := valD_digs n
  obtain ⟨b, l, e, h1, h2⟩ := digs_head n h0
  rw [e] at hd hl hv ⊢
  have hb : isDig b = true := by simp only [List.all_cons, Bool.and_eq_true] at hd; exact hd.1
  have hb2 := (isDig_iff b).1 hb
  have hp : Lib.parseUintB 64 (b :: l) = .ok n := by
    unfold Lib.parseUintB
    rw [if_neg (by simp), parseM (b :: l) 0 hd, hv]
    · simp
    · have : 10 ^ (b :: l).length ≤ 10 ^ 9 := Nat.pow_le_pow_right (by omega) hl
      omega
  unfold Lib.parseIntB
  simp only
  rw [if_neg (by omega), hp]
  simp only
  rw [if_neg (by omega), if_neg (by omega), if_neg (by omega)]
set_option maxRecDepth 20000 in
theorem print_any (a : List UInt8) (ha : a.length ≤ 1000000000) : Gives 128 #[S a] (S (prtL a)) := by
  intro w hp
  have HC := Lib.hid (canonical_any a w ha)
  have HP := Lib.hid (show prtL a = if canonL a = [] then [48] else canonL a from rfl)
  generalize prtL a = res at *
  generalize canonL a = t at *
  clear ha hp
  unfold S at *
  by_cases ht : t = []
  · subst ht
    rw [if_pos rfl] at HP
    go_enter Tryz.func128, Tryz.ntmps128
    go_wp2_with fail
    refine HC.out.mono ?_
    rintro e w1 ⟨rfl, hb⟩
    go_wp2_with fail
    first | go_ret | skip
    rw [HP.out]
    exact ⟨rfl, hb⟩
  · rw [if_neg ht] at HP
    have hx : (t == []) = false := beq_false_of_ne ht
    clear ht
    go_enter Tryz.func128, Tryz.ntmps128
    go_wp2_with fail
    refine HC.out.mono ?_
    rintro e w1 ⟨rfl, hb⟩
    go_wp2_with fail
    first | go_ret | skip
    rw [HP.out]
    exact ⟨rfl, hb⟩
set_option maxRecDepth 20000 in
theorem small_any (n : Nat) (h : n < 100000000) : Gives 195 #[S (txtL n)] (.tuple #[.int .i64 n, .bool true]) := by
  intro w hp
  have hl : (txtL n).length ≤ 9 := txtL_length (n := (n : Int)) (L := 8) (by simpa using h)
  have HPR := Lib.hid (print_any (txtL n) (by omega))
  have hpl : (prtL (txtL n)).length ≤ 9 := by
    rw [prtL_nat]
    split
    · simp
    · exact digs_len9 n h
  have HPI := Lib.hid (fun W => (Tryz.strconv_ParseInt_10_at64_ok ⟨(prtL (txtL n)).toArray⟩ (by rw [str_size]; omega) n (by rw [S_toList]; exact parse_prt n h) W))
  have H := Lib.hid (Kp.start hp)
  generalize prtL (txtL n) = t at *
  generalize txtL (n : Int) = a at *
  clear hp hl hpl h
  unfold S at *
  go_enter Tryz.func195, Tryz.ntmps195
  go_wp2_with fail
  refine (HPR.out _ H.out.pw).mono ?_
  rintro e w1 ⟨rfl, hb⟩
  replace H := Lib.hid (H.out.here hb)
  clear hb
  go_wp2_with fail
  refine (HPI.out _).mono ?_
  rintro e w2 ⟨rfl, hw⟩
  have hb : Below w1.heap.size w1 w2 := by
    rcases hw with rfl | ⟨t, rfl⟩
    · exact Below.refl _ _
    · exact Lib.bytesWorld_below w1 _ _
  replace H := Lib.hid (H.out.here hb)
  clear hb hw
  go_wp2_with fail
  first | go_ret2 | skip
  exact ⟨rfl, H.out.bl⟩
end Go.Proofs.YtbnfgbcgpbdpcaaGreatDoor
