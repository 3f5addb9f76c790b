/- Merged texts: Wf, Ws, Wt, Dl, Df. -/
import Derived.Test.YtbnfgbcgpbdpcaaGreatDoorQGO21
import Derived.Test.YtbnfgbcgpbdpcaaGreatDoorQGO25
import Derived.Test.YtbnfgbcgpbdpcaaGreatDoorStpqGO
import Derived.Test.YtbnfgbcgpbdpcaaGreatDoorQGO14
import Derived.Test.YtbnfgbcgpbdpcaaGreatDoorQGO16
import Derived.Lib.SliceRun
import Derived.Deep.RegionHeld3
import Derived.Deep.DrawnRows
import Derived.Deep.QuietTactic
import Derived.BigQuiet
/- The law LotmapWhole: plain facts that its walk asks for. -/
namespace Go.Proofs.YtbnfgbcgpbdpcaaGreatDoor
open Go.RowKit Go.Shelf

/-- What remains of a lot's quantity. -/
def restQ (m : Mp) (y : Lot) : Rat := ((val y.q : Int) : Rat) * m.ratio.rat - ((flo (((val y.q : Int) : Rat) * m.ratio.rat) : Int) : Rat)
theorem frOf_nzW {q : Rat} (h : q ≠ 0) : ((frOf q).n == []) = false := by
  rw [Bool.eq_false_iff]
  intro e
  have h1 : txtL q.num = [] := eq_of_beq e
  have h2 := txtL_nil.1 h1
  exact h (Rat.num_eq_zero.1 h2)
theorem whole_facts {ls : List Lot} {m : Mp} (h0 : (mapL ls m).2 = 0) (hk : m.keep = false) (hw : ∀ y ∈ lotsOf ls m.inst, restQ m y = 0) :
    (mapL ls m).1.gains.length = 0 ∧ (newOf ls (mapL ls m).1.lots).length = (lotsOf ls m.inst).length ∧ ∀ (i : Nat) (y : Lot), (lotsOf ls m.inst)[i]? = some y → ∃ z, (newOf ls (mapL ls m).1.lots)[i]? = some z ∧ z.q = txtL (flo (((val y.q : Int) : Rat) * m.ratio.rat)) ∧ z.c = y.c ∧ z.acq = y.acq ∧ z.opn = y.opn := by
  rcases mapL_case ls m with ⟨e, he, h'⟩ | ⟨hl, hm, ho', h'⟩ | ⟨A, B, hM, h'⟩
  · rw [h'] at h0; exact absurd h0 he
  · rw [h', ho']
    refine ⟨rfl, by show (newOf ls ls).length = _; rw [new_self], fun i y h => by simp at h⟩
  · rw [h']
    obtain ⟨w1, w2, w3⟩ := whole_made (lotsOf_ok hM.ok m.inst) hM.mp hM.old hk hw
    refine ⟨by show (gainL m (planL (lotsOf ls m.inst) m) (lotsOf ls m.inst)).length = 0; rw [w1]; rfl, ?_, fun i y h => ?_⟩
    · show (newOf ls (A ++ mdO ls m ++ B)).length = _
      rw [hM.new]; exact w2
    · obtain ⟨hi, rfl⟩ := List.getElem?_eq_some_iff.1 h
      obtain ⟨z, hz, q1, q2, q3, q4⟩ := w3 i hi
      refine ⟨z, ?_, q1, q2, q3, q4⟩
      show (newOf ls (A ++ mdO ls m ++ B))[i]? = _
      rw [hM.new]; exact hz
theorem old_facts {ls : List Lot} {m : Mp} (h0 : (mapL ls m).2 = 0) : m.ratio.ok ∧ 0 < m.ratio.rat ∧ ∀ y ∈ lotsOf ls m.inst, y.q = txtL (val y.q) ∧ 0 ≤ val y.q := by
  obtain ⟨hl, hm⟩ := mapL_valid h0
  refine ⟨hm.ratio, hm.r0, fun y hy => ?_⟩
  have h := lotsOf_ok hl m.inst y hy
  exact ⟨canB_eq h.q, Int.le_of_lt h.q0⟩
end Go.Proofs.YtbnfgbcgpbdpcaaGreatDoor
/- The law LotmapSteps: plain facts that its walk asks for. -/
namespace Go.Proofs.YtbnfgbcgpbdpcaaGreatDoor
open Go.RowKit Go.Shelf

theorem rat_sub_zero {a b : Rat} (h : a - b = 0) : a = b := by
  have h1 : a - b + b = 0 + b := by rw [h]
  rwa [Rat.sub_eq_add_neg, Rat.add_assoc, Rat.neg_add_cancel, Rat.add_zero, Rat.zero_add] at h1
theorem fnd_uniq {l : List Lot} (hn : (l.map (·.id)).Nodup) {z : Lot} (hz : z ∈ l) : ∃ j : Nat, fndI l z.id = (j : Int) ∧ l[j]? = some z := by
  obtain ⟨j, hj, e⟩ := List.getElem_of_mem hz
  refine ⟨j, idxG_hit (List.getElem?_eq_some_iff.2 ⟨hj, e⟩) (by simp) ?_, List.getElem?_eq_some_iff.2 ⟨hj, e⟩⟩
  rw [List.any_eq_false]
  intro x hx
  obtain ⟨i, hi, ei⟩ := List.mem_take_iff_getElem.1 hx
  have hlt : i < j := by omega
  have h1 := List.pairwise_iff_getElem.1 hn i j (by rw [List.length_map]; omega) (by rw [List.length_map]; exact hj) hlt
  rw [List.getElem_map, List.getElem_map, e, ei] at h1
  simpa using h1
theorem fnd_none {l : List Lot} {i : List UInt8} (h : ∀ z ∈ l, z.id ≠ i) : fndI l i = -1 := by
  refine idxG_miss ?_
  rw [List.any_eq_false]
  intro x hx
  simpa using h x hx
theorem kept_at {m : Mp} (hk : m.keep = true) (ms : List Int) (k : Nat) (l : List Lot) {j : Nat} {y : Lot} (h : (lotsOf l m.inst)[j]? = some y) : { y with c := txtL (val y.c - ms.getD (k + j) 0) } ∈ keptL m ms k l := by
  induction l generalizing k j with
  | nil => simp [lotsOf] at h
  | cons a l ih =>
    unfold keptL
    by_cases ha : a.inst = m.inst
    · have e : lotsOf (a :: l) m.inst = a :: lotsOf l m.inst := by unfold lotsOf; rw [List.filter_cons, ha]; simp
      rw [if_pos ha, if_pos hk]
      rw [e] at h
      cases j with
      | zero =>
        obtain rfl : a = y := by simpa using h
        exact List.mem_cons.2 (.inl rfl)
      | succ j =>
        have := ih (k + 1) (j := j) (by simpa using h)
        rw [show k + 1 + j = k + (j + 1) by omega] at this
        exact List.mem_cons.2 (.inr this)
    · have e : lotsOf (a :: l) m.inst = lotsOf l m.inst := by unfold lotsOf; rw [List.filter_cons]; simp [ha]
      rw [if_neg ha]
      rw [e] at h
      exact List.mem_cons.2 (.inr (ih k h))
/-- What the steps from a lot take of it. -/
theorem steps_old {ls : List Lot} {m : Mp} (h : (mapL ls m).2 = 0) {y : Lot} (hy : y ∈ lotsOf ls m.inst) :
    (fndI (mapL ls m).1.lots y.id = -1 ∧ stpSum (mapL ls m).1.steps (fun s => decide (s.src = y.id)) (·.cost) = val y.c ∧ stpSum (mapL ls m).1.steps (fun s => decide (s.src = y.id)) (·.q) = val y.q) ∨
    (∃ (j : Nat) (z : Lot), fndI (mapL ls m).1.lots y.id = (j : Int) ∧ (mapL ls m).1.lots[j]? = some z ∧ stpSum (mapL ls m).1.steps (fun s => decide (s.src = y.id)) (·.cost) = val y.c - val z.c ∧ stpSum (mapL ls m).1.steps (fun s => decide (s.src = y.id)) (·.q) = val y.q - val z.q) := by
  rcases mapL_case ls m with ⟨e, he, h'⟩ | ⟨hl, hm, ho', h'⟩ | ⟨A, B, hM, h'⟩
  · rw [h'] at h; exact absurd h he
  · rw [ho'] at hy; simp at hy
  · rw [h']
    have hlo := lotsOf_ok hM.ok m.inst
    have hok := planL_ok hlo hM.mp
    obtain ⟨l1, l2, l3, l4⟩ := planL_lens (lotsOf ls m.inst) m
    obtain ⟨s1, s2, s3, s4, s5⟩ := planL_sums hlo hM.mp hM.old
    obtain ⟨hq, hc⟩ := old_nonneg hlo
    obtain ⟨k, hk, rfl⟩ := List.getElem_of_mem hy
    have hat := planL_at hlo hM.mp hM.old (List.getElem?_eq_getElem hk)
    have hids := (hM.ok' hM.len).ids
    have hcost : stpSum (stpL m (planL (lotsOf ls m.inst) m) (lotsOf ls m.inst)) (fun s => decide (s.src = (lotsOf ls m.inst)[k].id)) (·.cost) = (planL (lotsOf ls m.inst) m).m.getD k 0 := by
      unfold stpL
      rw [stpTo_from m _ _ (lotsOf_ids hM.ok m.inst) (·.cost) k hk _ (Nat.le_refl _), if_pos hk, stp2_cost]
      split
      · rename_i h0
        by_cases hp : (planL (lotsOf ls m.inst) m).part = 0
        · exfalso
          have h1 : (planL (lotsOf ls m.inst) m).exact - (((planL (lotsOf ls m.inst) m).parts : Int) : Rat) = 0 := hp
          rw [h0] at h1
          have h2 : (planL (lotsOf ls m.inst) m).exact = 0 := by
            have := rat_sub_zero h1
            rw [this]; rfl
          rw [hok.ex] at h2
          rcases Rat.mul_eq_zero.1 h2 with h3 | h3
          · have h4 : (((lotsOf ls m.inst).map fun y => val y.q).sum) = 0 := by exact_mod_cast h3
            omega
          · have := hM.mp.r0
            rw [h3] at this
            exact absurd this (by decide)
        · have hf : (planL (lotsOf ls m.inst) m).f = (planL (lotsOf ls m.inst) m).m := by
            show divS (planL (lotsOf ls m.inst) m).taken (planL (lotsOf ls m.inst) m).m = _
            rw [hok.none hp h0, ← s2]
            exact divS_self (divS_nonneg hok.moved0 hc)
          rw [hf]
      · rfl
    have hqq : stpSum (stpL m (planL (lotsOf ls m.inst) m) (lotsOf ls m.inst)) (fun s => decide (s.src = (lotsOf ls m.inst)[k].id)) (·.q) = if m.keep = true then 0 else val (lotsOf ls m.inst)[k].q := by
      unfold stpL
      rw [stpTo_from m _ _ (lotsOf_ids hM.ok m.inst) (·.q) k hk _ (Nat.le_refl _), if_pos hk, stp2_q]
    show (fndI (A ++ mdO ls m ++ B) _ = -1 ∧ stpSum (stpL _ _ _) _ _ = _ ∧ stpSum (stpL _ _ _) _ _ = _) ∨ (∃ (j : Nat) (z : Lot), fndI (A ++ mdO ls m ++ B) _ = _ ∧ (A ++ mdO ls m ++ B)[j]? = some z ∧ stpSum (stpL _ _ _) _ _ = _ ∧ stpSum (stpL _ _ _) _ _ = _)
    rw [hcost, hqq]
    by_cases hkp : m.keep = true
    · rw [if_pos hkp]
      refine .inr ?_
      have hz := kept_at hkp (planL (lotsOf ls m.inst) m).m 0 ls (List.getElem?_eq_getElem hk)
      rw [hM.cut] at hz
      have hz2 : ∀ z, z ∈ A ++ B → z ∈ A ++ mdO ls m ++ B := fun z hz => by rcases List.mem_append.1 hz with hz | hz <;> simp [hz]
      obtain ⟨j, hj, hg⟩ := fnd_uniq hids (hz2 _ hz)
      refine ⟨j, _, hj, hg, ?_, ?_⟩
      · show _ = _ - val (txtL _)
        rw [val_txtL, Nat.zero_add]
        omega
      · exact (Int.sub_self _).symm
    · rw [if_neg hkp]
      rw [Bool.not_eq_true] at hkp
      refine .inl ⟨fnd_none ?_, ?_, rfl⟩
      · intro z hz e
        have hin : (lotsOf ls m.inst)[k] ∈ ls := (List.mem_filter.1 hy).1
        have hinst : (lotsOf ls m.inst)[k].inst = m.inst := by simpa using (List.mem_filter.1 hy).2
        have hzc : z ∈ mdO ls m ∨ z ∈ A ++ B := by
          rcases List.mem_append.1 hz with hz | hz
          · rcases List.mem_append.1 hz with hz | hz
            · exact .inr (by simp [hz])
            · exact .inl hz
          · exact .inr (by simp [hz])
        rcases hzc with hz | hz
        · exact hM.free z hz (by rw [e]; exact List.mem_map.2 ⟨_, hin, rfl⟩)
        · rw [← hM.cut, kept_gone hkp] at hz
          obtain ⟨hz1, hz2⟩ := List.mem_filter.1 hz
          have : z = (lotsOf ls m.inst)[k] := by
            obtain ⟨i1, j1, g1⟩ := fnd_uniq hM.ok.ids hz1
            obtain ⟨i2, j2, g2⟩ := fnd_uniq hM.ok.ids hin
            rw [e, j2] at j1
            obtain rfl : i2 = i1 := by exact_mod_cast j1
            exact Option.some.inj (g1.symm.trans g2)
          rw [this, hinst] at hz2
          simp at hz2
      · have hm' : (planL (lotsOf ls m.inst) m).m = (lotsOf ls m.inst).map fun y => val y.c := by
          show divS (planL (lotsOf ls m.inst) m).moved _ = _
          rw [hok.all hkp]
          exact divS_self hc
        rw [hm', getD_of (a := val (lotsOf ls m.inst)[k].c) (by rw [List.getElem?_map, List.getElem?_eq_getElem hk]; rfl)]
/-- What the steps to a new lot bring it. -/
theorem steps_new {ls : List Lot} {m : Mp} (h : (mapL ls m).2 = 0) {z : Lot} (hz : z ∈ newOf ls (mapL ls m).1.lots) :
    stpSum (mapL ls m).1.steps (fun s => decide (s.dst = z.id)) (·.cost) = val z.c ∧ stpSum (mapL ls m).1.steps (fun s => decide (s.dst = z.id)) (·.made) = val z.q := by
  rcases mapL_case ls m with ⟨e, he, h'⟩ | ⟨hl, hm, ho', h'⟩ | ⟨A, B, hM, h'⟩
  · rw [h'] at h; exact absurd h he
  · rw [h'] at hz
    have hz : z ∈ newOf ls ls := hz
    rw [new_self] at hz; simp at hz
  · rw [h'] at hz ⊢
    have hz : z ∈ newOf ls (A ++ mdO ls m ++ B) := hz
    rw [hM.new] at hz
    have hlo := lotsOf_ok hM.ok m.inst
    have hok := planL_ok hlo hM.mp
    obtain ⟨l1, l2, l3, l4⟩ := planL_lens (lotsOf ls m.inst) m
    obtain ⟨s1, s2, s3, s4, s5⟩ := planL_sums hlo hM.mp hM.old
    obtain ⟨hq, hc⟩ := old_nonneg hlo
    obtain ⟨i, y, hy, hn, rfl⟩ := mem_madeL hz
    obtain ⟨hi, rfl⟩ := List.getElem?_eq_some_iff.1 hy
    have hp : (planL (lotsOf ls m.inst) m).parts ≠ 0 := by
      intro h0
      rw [h0] at s1
      have hin : i < (planL (lotsOf ls m.inst) m).n.length := Nat.lt_of_lt_of_eq hi l1.symm
      have h3 := sum_zero_all (divS_nonneg hok.parts0 hq) s1 _ (List.getElem_mem hin)
      exact hn (by rw [getD_of (List.getElem?_eq_getElem hin)]; exact h3)
    obtain ⟨t1, t2⟩ := stpTo_to m (planL (lotsOf ls m.inst) m) (lotsOf ls m.inst) l1 hp hi hn _ (Nat.le_refl _)
    rw [if_pos hi] at t1 t2
    refine ⟨t1.trans ?_, t2.trans ?_⟩
    · show _ = val (txtL _)
      rw [val_txtL]
      exact Int.add_comm _ _
    · show _ = val (txtL _)
      rw [val_txtL]
theorem steps_cause {ls : List Lot} {m : Mp} : ∀ s ∈ (mapL ls m).1.steps, s.cause = m.cause := by
  rcases mapL_case ls m with ⟨e, he, h'⟩ | ⟨hl, hm, ho', h'⟩ | ⟨A, B, hM, h'⟩
  · rw [h']; intro s hs; simp [Res.none] at hs
  · rw [h']; intro s hs; simp at hs
  · rw [h']; intro s hs; exact stpTo_cause hs
end Go.Proofs.YtbnfgbcgpbdpcaaGreatDoor
/- The law LotmapSteps: sums over steps, sizes. -/
namespace Go.Proofs.YtbnfgbcgpbdpcaaGreatDoor
open Go.RowKit Go.Shelf

theorem steps_len {ls : List Lot} {m : Mp} {L : Nat} (hL1 : 1 ≤ L) (hq : ∀ y ∈ ls, y.q.length ≤ L ∧ y.c.length ≤ L) (hr : m.ratio.Sz L) (hpr : m.price.Sz L) :
    ∀ s ∈ (mapL ls m).1.steps, s.q.length ≤ 4 * L + 42 ∧ s.made.length ≤ 4 * L + 42 ∧ s.cost.length ≤ 4 * L + 42 := by
  rcases mapL_case ls m with ⟨e, he, h'⟩ | ⟨hl, hm, ho, h'⟩ | ⟨A, B, hM, h'⟩
  · rw [h']; intro y hy; cases hy
  · rw [h']; intro y hy; cases hy
  · rw [h']
    have hok := lotsOf_ok hM.ok m.inst
    have hlo : (lotsOf ls m.inst).length ≤ 1000 := Nat.le_trans (lotsOf_len ls m.inst) hM.ok.len
    have hK := planL_k hok hM.mp hlo hL1 (fun y hy => (hq y (List.mem_filter.1 hy).1).1) (fun y hy => (hq y (List.mem_filter.1 hy).1).2) hr hpr
    intro s hs'
    have hs' : s ∈ stpL m (planL (lotsOf ls m.inst) m) (lotsOf ls m.inst) := hs'
    unfold stpL stpTo at hs'
    obtain ⟨k, _, hk⟩ := List.mem_flatMap.1 hs'
    have h1 := txtL_length (hK.n k); have h2 := txtL_length (hK.f k); have h3 := txtL_length (hK.mv k)
    cases ho : (lotsOf ls m.inst)[k]? with
    | none => rw [ho] at hk; cases hk
    | some y =>
      rw [ho] at hk
      simp only at hk
      have hy := (hq y (List.mem_filter.1 (List.mem_of_getElem? ho)).1).1
      have hg : (if m.keep = true then ([] : List UInt8) else y.q).length ≤ 4 * L + 42 := by
        split
        · exact Nat.zero_le _
        · omega
      unfold stp2 at hk
      simp only at hk
      split at hk
      · rw [stp1_mem hk]; exact ⟨hg, Nat.zero_le _, by show (txtL _).length ≤ _; omega⟩
      · rcases List.mem_append.1 hk with hk | hk
        · rw [stp1_mem hk]; exact ⟨hg, by show (txtL _).length ≤ _; omega, by show (txtL _).length ≤ _; omega⟩
        · rw [stp1_mem hk]; exact ⟨Nat.zero_le _, Nat.zero_le _, by show (txtL _).length ≤ _; omega⟩
theorem stpK {xs : List Stp} {k : Nat} {x : Stp} (p : Stp → Bool) (g : Stp → List UInt8) (h : xs[k]? = some x) : stpSum (xs.take (k + 1)) p g = stpSum (xs.take k) p g + if p x = true then val (g x) else 0 := by
  obtain ⟨hk, rfl⟩ := List.getElem?_eq_some_iff.1 h
  rw [List.take_succ_eq_append_getElem hk, stpSum_append]
  congr 1
  unfold stpSum
  by_cases h : p xs[k] = true
  · rw [if_pos h, List.filter_cons_of_pos h]; simp
  · rw [if_neg h, List.filter_cons_of_neg h]; rfl
theorem stp_abs {xs : List Stp} {K : Nat} (p : Stp → Bool) (g : Stp → List UInt8) (h : ∀ s ∈ xs, (g s).length ≤ K) : (stpSum xs p g).natAbs ≤ xs.length * 10 ^ K := by
  induction xs with
  | nil => simp [stpSum]
  | cons a l ih =>
    have e : stpSum (a :: l) p g = (if p a = true then val (g a) else 0) + stpSum l p g := by
      rw [show a :: l = [a] ++ l from rfl, stpSum_append]
      congr 1
      unfold stpSum
      by_cases h : p a = true
      · rw [if_pos h, List.filter_cons_of_pos h]; simp
      · rw [if_neg h, List.filter_cons_of_neg h]; rfl
    have h1 := ih (fun s hs => h s (by simp [hs]))
    have h2 := val_lt' (h a (by simp))
    rw [e, List.length_cons, Nat.add_mul, Nat.one_mul]
    generalize l.length * 10 ^ K = P at *
    generalize 10 ^ K = Q at *
    split <;> omega
theorem abs_sub_lt {v s : Int} {P R n : Nat} (hv : v.natAbs < P) (h1 : s.natAbs ≤ n) (h3 : n ≤ R) (h4 : R ≤ P) : (v - s).natAbs < 10 * P := by omega
/-- How long a number is from which steps were taken. -/
theorem left_len {xs : List Stp} {v : Int} (p : Stp → Bool) (g : Stp → List UInt8) (hv : v.natAbs < 10 ^ 110) (h : ∀ s ∈ xs, (g s).length ≤ 94) (hn : xs.length ≤ 2000) (k : Nat) : (txtL (v - stpSum (xs.take k) p g)).length ≤ 1000 := by
  have h1 := stp_abs p g (xs := xs.take k) (fun s hs => h s (List.mem_of_mem_take hs))
  have h2 : (xs.take k).length ≤ 2000 := by rw [List.length_take]; omega
  have h3 : (xs.take k).length * 10 ^ 94 ≤ 2000 * 10 ^ 94 := Nat.mul_le_mul_right _ h2
  have h4 : 2000 * 10 ^ 94 ≤ 10 ^ 110 := Nat.le_of_ble_eq_true rfl
  have h5 : (v - stpSum (xs.take k) p g).natAbs < 10 ^ 111 := Nat.lt_of_lt_of_eq (abs_sub_lt hv h1 h3 h4) rfl
  have := txtL_length h5
  omega
/-- The numbers of the lots, old and new, are canonical. -/
theorem steps_can {ls : List Lot} {m : Mp} (h : (mapL ls m).2 = 0) :
    (∀ y ∈ lotsOf ls m.inst, y.c = txtL (val y.c) ∧ y.q = txtL (val y.q)) ∧ ∀ z ∈ newOf ls (mapL ls m).1.lots, z.c = txtL (val z.c) ∧ z.q = txtL (val z.q) := by
  refine ⟨fun y hy => ?_, ?_⟩
  · obtain ⟨hl, hm⟩ := mapL_valid h
    have h := lotsOf_ok hl m.inst y hy
    exact ⟨canB_eq h.c, canB_eq h.q⟩
  · rcases mapL_case ls m with ⟨e, he, h'⟩ | ⟨hl, hm, ho', h'⟩ | ⟨A, B, hM, h'⟩
    · rw [h'] at h; exact absurd h he
    · rw [h']
      intro z hz
      have hz : z ∈ newOf ls ls := hz
      rw [new_self] at hz; simp at hz
    · rw [h']
      intro z hz
      have hz : z ∈ newOf ls (A ++ mdO ls m ++ B) := hz
      rw [hM.new] at hz
      obtain ⟨i, y, hy, hn, rfl⟩ := mem_madeL hz
      refine ⟨?_, ?_⟩
      · show txtL _ = txtL (val (txtL _))
        rw [val_txtL]
      · show txtL _ = txtL (val (txtL _))
        rw [val_txtL]
theorem stp_lt {xs : List Stp} (p : Stp → Bool) (g : Stp → List UInt8) (h : ∀ s ∈ xs, (g s).length ≤ 94) (hn : xs.length ≤ 2000) : (stpSum xs p g).natAbs < 10 ^ 110 := by
  have h1 := stp_abs p g h
  have h3 : xs.length * 10 ^ 94 ≤ 2000 * 10 ^ 94 := Nat.mul_le_mul_right _ hn
  have h4 : 2000 * 10 ^ 94 < 10 ^ 110 := Nat.le_of_ble_eq_true rfl
  exact Nat.lt_of_le_of_lt h1 (Nat.lt_of_le_of_lt h3 h4)
/-- What is left of a sum of steps while one goes through them. -/
theorem left_fun {xs : List Stp} (p : Stp → Bool) (g : Stp → List UInt8) (h : ∀ s ∈ xs, (g s).length ≤ 94) (hn : xs.length ≤ 2000) :
    ∃ F : Nat → Int, F 0 = stpSum xs p g ∧ F xs.length = 0 ∧ (∀ i, (txtL (F i)).length ≤ 1000) ∧ ∀ (i : Nat) (s : Stp), xs[i]? = some s → F (i + 1) = F i - if p s = true then val (g s) else 0 := by
  refine ⟨fun i => stpSum xs p g - stpSum (xs.take i) p g, ?_, ?_, fun i => left_len p g (stp_lt p g h hn) h hn i, fun i s hs => ?_⟩
  · show _ - stpSum (xs.take 0) p g = _
    rw [List.take_zero]
    show _ - (0 : Int) = _
    omega
  · show _ - stpSum (xs.take xs.length) p g = _
    rw [List.take_length]; omega
  · show _ - stpSum (xs.take (i + 1)) p g = _ - stpSum (xs.take i) p g - _
    rw [stpK p g hs]; omega
end Go.Proofs.YtbnfgbcgpbdpcaaGreatDoor
/- Lots: struct comparison; contracts of slices.Index, slices.Contains over lots; slices.DeleteFunc over a row of the call's own. -/
namespace Go.Proofs.YtbnfgbcgpbdpcaaGreatDoor
open Go.RowKit Go.Shelf
attribute [local go_sem ↓] Go.wp_at_zero Go.wp_at_succ

set_option maxHeartbeats 1000000 in
theorem eqLot (x y : Lot) (w : World) : (binOp .eql 39 (LotV x) (LotV y)).run Tryz.prog w = .ok (.bool (decide (x = y))) w := by
  have u1 := Tryz.underlying9
  have u2 := Tryz.underlying23
  have u3 := Tryz.underlying24
  have a1 := Tryz.isAgg9
  have z1 := Tryz.sizeOf9
  have a2 := Tryz.isAgg23
  have z2 := Tryz.sizeOf23
  have a3 := Tryz.isAgg24
  have z3 := Tryz.sizeOf24
  have hS : Tryz.prog.underlying 39 = some (.struct (Tryz.prog.fieldsOf 39)) := by kernel_rfl
  have hp : Tryz.prog.stoodInHeld 39 = false := by kernel_rfl
  obtain ⟨a, b, c, d, e, f, g⟩ := x
  obtain ⟨a', b', c', d', e', f', g'⟩ := y
  simp only [LotV, S]
  rw [run_eql_struct, show (10000 : Nat) = 9999 + 1 from rfl, run_equalIn_agg w 9999 39 _ _ hS hp]
  simp only [Program.fieldsOf, Tryz.underlying39]
  go_simp
  (repeat' split) <;> simp_all
theorem bdN7 {B : Nat} {a w : World} (h : Below B a w) (n : Nat) : Below B a (w.drewN n) := ⟨h.os, h.tape, h.output, h.size, h.block⟩
set_option maxRecDepth 100000 in
set_option maxHeartbeats 2000000 in
theorem idxLot_any (A : Option Addr) (n c : Nat) (xs : List Lot) (z : Lot) (w : World) (hr : Lots w w.heap.size A n xs) (hn : n ≤ 1000000000) :
    Calls Tryz.prog 55 #[.slice A n c, LotV z] w fun e w' => e = .returned (.int .i64 (idxG (fun x : Lot => decide (z = x)) xs)) ∧ Below w.heap.size w w' := by
  have HR := Lib.hid hr
  clear hr
  have hnew := heap_alloc_new w (.cells #[.string ⟨z.id.toArray⟩, .string ⟨z.inst.toArray⟩, .int .i64 z.acq, .int .i64 z.opn, .string ⟨z.q.toArray⟩, .string ⟨z.c.toArray⟩, .string ⟨z.u.toArray⟩] 39)
  have HB0 := Lib.hid ((Below.refl w.heap.size w).alloc (Nat.le_refl _) (.cells #[.string ⟨z.id.toArray⟩, .string ⟨z.inst.toArray⟩, .int .i64 z.acq, .int .i64 z.opn, .string ⟨z.q.toArray⟩, .string ⟨z.c.toArray⟩, .string ⟨z.u.toArray⟩] 39))
  have HBZ := Lib.hid (show BlkB (w.alloc (.cells #[.string ⟨z.id.toArray⟩, .string ⟨z.inst.toArray⟩, .int .i64 z.acq, .int .i64 z.opn, .string ⟨z.q.toArray⟩, .string ⟨z.c.toArray⟩, .string ⟨z.u.toArray⟩] 39)) w.heap.size #[.string ⟨z.id.toArray⟩, .string ⟨z.inst.toArray⟩, .int .i64 z.acq, .int .i64 z.opn, .string ⟨z.q.toArray⟩, .string ⟨z.c.toArray⟩, .string ⟨z.u.toArray⟩] 39 from hnew)
  clear hnew
  unfold LotV S
  go_enter Tryz.func55, Tryz.ntmps55
  go_wp2
  generalize w.alloc (.cells #[.string ⟨z.id.toArray⟩, .string ⟨z.inst.toArray⟩, .int .i64 z.acq, .int .i64 z.opn, .string ⟨z.q.toArray⟩, .string ⟨z.c.toArray⟩, .string ⟨z.u.toArray⟩] 39) = W0 at *
  go_loopw [5, 8] (fun _ i wr => ∃ (j : Nat) (q : Nat), j ≤ n ∧ i = .int .i64 j ∧ Hid ((xs.take j).any (fun x : Lot => decide (z = x)) = false) ∧ Hid (wr = W0.drewN q)) (fun _ i _ => n - (intOf i).toNat)
  case atStart => exact ⟨0, 0, Nat.zero_le _, rfl, by show _ = _; simp, rfl⟩
  case round =>
    obtain ⟨j, q, hj, rfl, HN, HW⟩ := hrel
    have HBW := Lib.hid (show Below w.heap.size w wr by rw [HW.out]; exact bdN7 HB0.out q)
    by_cases hlt : j < n
    · obtain ⟨b, off, y, rfl, hb, hy, d0, d1, d2, d3, d4, d5, d6⟩ := (HR.out.below HBW.out).lot7 hlt
      have HZ2 := Lib.hid (show BlkB wr w.heap.size #[.string ⟨z.id.toArray⟩, .string ⟨z.inst.toArray⟩, .int .i64 z.acq, .int .i64 z.opn, .string ⟨z.q.toArray⟩, .string ⟨z.c.toArray⟩, .string ⟨z.u.toArray⟩] 39 by rw [HW.out]; exact HBZ.out)
      have e0 := HZ2.out.cell 0 rfl; have e1 := HZ2.out.cell 1 rfl; have e2 := HZ2.out.cell 2 rfl; have e3 := HZ2.out.cell 3 rfl; have e4 := HZ2.out.cell 4 rfl; have e5 := HZ2.out.cell 5 rfl; have e6 := HZ2.out.cell 6 rfl
      have hltz : (j : Int) < (n : Int) := by omega
      have hj0 : (0 : Int) ≤ (j : Int) := by omega
      have heq := fun W => eqLot z y W
      unfold LotV S at heq
      have HX := Lib.hid hy; clear hy
      by_cases hzy : z = y
      · have HZY := Lib.hid hzy
        rw [show decide (z = y) = true from decide_eq_true hzy] at heq
        clear hzy
        go_wp2
        go_quiet (fail)
        clear heq
        go_wp2
        go_ret
        exact ⟨ret_int (idxG_hit HX.out (decide_eq_true HZY.out) HN.out).symm, bdN7 HBW.out nq⟩
      · have HZY := Lib.hid hzy
        rw [show decide (z = y) = false from decide_eq_false hzy] at heq
        clear hzy
        go_wp2
        go_quiet (fail)
        clear heq
        go_wp2
        go_roundw
        case rel => exact ⟨j + 1, q + nq, by omega, by go_num, anyG_step HX.out HN.out (decide_eq_false HZY.out), by show _ = _; rw [HW.out, World.drewN_drewN]⟩
        case measure => simp [intOf]; omega
    · go_wp2
      go_ret
      exact ⟨ret_int (idxG_miss (by have := HN.out; rwa [List.take_of_length_le (by have := HR.out.1; omega)] at this)).symm, HBW.out⟩
set_option maxRecDepth 100000 in
set_option maxHeartbeats 2000000 in
theorem hasLot_any (A : Option Addr) (n c : Nat) (xs : List Lot) (z : Lot) (w : World) (hr : Lots w w.heap.size A n xs) (hn : n ≤ 1000000000) :
    Calls Tryz.prog 27 #[.slice A n c, LotV z] w fun e w' => e = .returned (.bool (xs.any (fun x : Lot => decide (z = x)))) ∧ Below w.heap.size w w' := by
  have HB0 := Lib.hid ((Below.refl w.heap.size w).alloc (Nat.le_refl _) (.cells #[.string ⟨z.id.toArray⟩, .string ⟨z.inst.toArray⟩, .int .i64 z.acq, .int .i64 z.opn, .string ⟨z.q.toArray⟩, .string ⟨z.c.toArray⟩, .string ⟨z.u.toArray⟩] 39))
  have HIX := Lib.hid (idxLot_any A n c xs z _ (hr.here HB0.out) hn)
  have HBZ := Lib.hid (show BlkB (w.alloc (.cells #[.string ⟨z.id.toArray⟩, .string ⟨z.inst.toArray⟩, .int .i64 z.acq, .int .i64 z.opn, .string ⟨z.q.toArray⟩, .string ⟨z.c.toArray⟩, .string ⟨z.u.toArray⟩] 39)) w.heap.size #[.string ⟨z.id.toArray⟩, .string ⟨z.inst.toArray⟩, .int .i64 z.acq, .int .i64 z.opn, .string ⟨z.q.toArray⟩, .string ⟨z.c.toArray⟩, .string ⟨z.u.toArray⟩] 39 from heap_alloc_new w _)
  have e := idxG_nonneg (fun x : Lot => decide (z = x)) xs
  generalize idxG (fun x : Lot => decide (z = x)) xs = k at *
  have E := Lib.hid e; clear e hr
  have e0 := HBZ.out.cell 0 rfl; have e1 := HBZ.out.cell 1 rfl; have e2 := HBZ.out.cell 2 rfl; have e3 := HBZ.out.cell 3 rfl; have e4 := HBZ.out.cell 4 rfl; have e5 := HBZ.out.cell 5 rfl; have e6 := HBZ.out.cell 6 rfl
  unfold LotV S at *
  go_enter Tryz.func27, Tryz.ntmps27
  go_wp2_with (go_at_call 55; refine (HIX.out).mono ?_; rintro e w' ⟨rfl, hb'⟩)
  first | go_ret | skip
  exact ⟨ret_bool E.out, HB0.out.trans (hb'.mono HB0.out.size)⟩
end Go.Proofs.YtbnfgbcgpbdpcaaGreatDoor
/- slices.DeleteFunc over a row of lots of the call's own. -/
namespace Go.Proofs.YtbnfgbcgpbdpcaaGreatDoor
open Go.RowKit Go.Shelf
attribute [local go_sem ↓] Go.wp_at_zero Go.wp_at_succ

section
variable {P : Program}
theorem run_clear_k (w : World) (t e ty : TypeId) (z : Value) (ht : P.underlying t = some (.slice e)) (hv : ∀ w, (zeroValue e).run P w = .ok z w) (b o n c : Nat) (hn : 0 < n) (vs : List Value) (hz : (Builtin.zeroCells z.cells n).toList = vs)
    (hc : ∀ j, j < vs.length → (w.cell? ⟨b, o + j, none⟩).isSome = true) (hf : ∀ j, j < vs.length → w.frozen? ⟨b, o + j, none⟩ = false) (h1 : ∀ v ∈ vs, v.oneCell' = true) :
    (Builtin.clear_ #[t] ty #[.slice (some ⟨b, o, none⟩) n c]).run P w = .ok (.tuple #[]) (w.setCells b o vs) := by
  have hst := run_storeCells_cells (P := P) b o vs 0 w (by simpa using hc) (by simpa using hf) h1
  simp only [Nat.add_zero] at hst
  obtain ⟨m, rfl⟩ : ∃ m, n = m + 1 := ⟨n - 1, by omega⟩
  simp [Builtin.clear_, run_underlying ht, hv, hz, hst]
end
section
variable {w : World} {base : Nat} {e : TypeId} {k n c g : Nat}
theorem raw_shrink {ys : List Value} {m : Nat} (h : w.ownsRow base e k (.slice (some ⟨g, 0, none⟩) n c) n ys) (hm : m ≤ n) : w.ownsRow base e k (.slice (some ⟨g, 0, none⟩) m c) m (ys.take (m * k)) := by
  have hmk : m * k ≤ n * k := Nat.mul_le_mul_right _ hm
  refine ⟨by rw [List.length_take, h.1]; omega, ?_⟩
  rcases h.2 with ⟨h0, _⟩ | ⟨g', cap, cur, hv, hb, hg, hnc, hcm, hcs, ht⟩
  · cases h0
  · injection hv with a1 a2 a3
    injection a1 with a1
    injection a1 with a1
    subst a1; subst a3
    refine .inr ⟨g, c, cur, rfl, hb, hg, by omega, hcm, hcs, ?_⟩
    rw [← ht, List.take_take, Nat.min_eq_left hmk]
theorem raw_cells (vs : List Value) : ∀ {w : World} {ys : List Value} (o : Nat), w.ownsRow base e k (.slice (some ⟨g, 0, none⟩) n c) n ys →
    ∃ ys', (w.setCells g o vs).ownsRow base e k (.slice (some ⟨g, 0, none⟩) n c) n ys' ∧ ∀ l, l ≤ o → ys'.take l = ys.take l := by
  induction vs with
  | nil => intro w ys o h; exact ⟨ys, h, fun _ _ => rfl⟩
  | cons v vs ih =>
    intro w ys o h
    obtain ⟨ys', h1, h2⟩ := ih (o + 1) (World.ownsRow.stored h o v).1
    refine ⟨ys', h1, fun l hl => ?_⟩
    rw [h2 l (by omega), List.take_set_of_le hl]
theorem below_cells (vs : List Value) : ∀ {a w : World} {B : Nat} (o : Nat), B ≤ g → Below B a w → Below B a (w.setCells g o vs) := by
  induction vs with
  | nil => intro a w B o _ h; exact h
  | cons v vs ih => intro a w B o hg h; exact ih (o + 1) hg (h.setCell hg v)
end
/-- A row cut to its first elements, behind a clearing of the others. -/
theorem Own.cleared {w : World} {base g n c i : Nat} {xs : List Lot} (h : Own L7 7 39 w base (.slice (some ⟨g, 0, none⟩) n c) xs) (hi : i ≤ n) (vs : List Value) :
    Own L7 7 39 (w.setCells g (i * 7) vs) base (.slice (some ⟨g, 0, none⟩) i c) (xs.take i) := by
  have hn := h.facts.1
  subst hn
  obtain ⟨ys', h1, h2⟩ := raw_cells vs (i * 7) h
  have h3 := raw_shrink h1 hi
  rw [h2 _ (Nat.le_refl _), ← flat_take L7_len] at h3
  show World.ownsRow _ _ _ _ _ (xs.take i).length _
  rw [List.length_take, Nat.min_eq_left hi]
  exact h3
/-- A lot stored at a place of the row. -/
theorem Own.set7 {w : World} {base g n c i : Nat} {x y : Lot} {xs : List Lot} (h : Own L7 7 39 w base (.slice (some ⟨g, 0, none⟩) n c) xs) (hi : xs[i]? = some x) :
    Own L7 7 39 (((((((w.setCell ⟨g, i * 7, none⟩ (.string ⟨y.id.toArray⟩)).setCell ⟨g, i * 7 + 1, none⟩ (.string ⟨y.inst.toArray⟩)).setCell ⟨g, i * 7 + 2, none⟩ (.int .i64 y.acq)).setCell ⟨g, i * 7 + 3, none⟩ (.int .i64 y.opn)).setCell ⟨g, i * 7 + 4, none⟩ (.string ⟨y.q.toArray⟩)).setCell ⟨g, i * 7 + 5, none⟩ (.string ⟨y.c.toArray⟩)).setCell ⟨g, i * 7 + 6, none⟩ (.string ⟨y.u.toArray⟩)) base (.slice (some ⟨g, 0, none⟩) n c) (xs.set i y) := by
  have hl := (List.getElem?_eq_some_iff.1 hi).1
  have h0 := h.set_ L7_len (i := i) (j := 0) (y := ⟨y.id, x.inst, x.acq, x.opn, x.q, x.c, x.u⟩) (u := .string ⟨y.id.toArray⟩) hi (by decide) rfl
  have h1 := h0.set_ L7_len (i := i) (j := 1) (x := ⟨y.id, x.inst, x.acq, x.opn, x.q, x.c, x.u⟩) (y := ⟨y.id, y.inst, x.acq, x.opn, x.q, x.c, x.u⟩) (u := .string ⟨y.inst.toArray⟩) (by simp [hl]) (by decide) rfl
  have h2 := h1.set_ L7_len (i := i) (j := 2) (x := ⟨y.id, y.inst, x.acq, x.opn, x.q, x.c, x.u⟩) (y := ⟨y.id, y.inst, y.acq, x.opn, x.q, x.c, x.u⟩) (u := .int .i64 y.acq) (by simp [hl]) (by decide) rfl
  have h3 := h2.set_ L7_len (i := i) (j := 3) (x := ⟨y.id, y.inst, y.acq, x.opn, x.q, x.c, x.u⟩) (y := ⟨y.id, y.inst, y.acq, y.opn, x.q, x.c, x.u⟩) (u := .int .i64 y.opn) (by simp [hl]) (by decide) rfl
  have h4 := h3.set_ L7_len (i := i) (j := 4) (x := ⟨y.id, y.inst, y.acq, y.opn, x.q, x.c, x.u⟩) (y := ⟨y.id, y.inst, y.acq, y.opn, y.q, x.c, x.u⟩) (u := .string ⟨y.q.toArray⟩) (by simp [hl]) (by decide) rfl
  have h5 := h4.set_ L7_len (i := i) (j := 5) (x := ⟨y.id, y.inst, y.acq, y.opn, y.q, x.c, x.u⟩) (y := ⟨y.id, y.inst, y.acq, y.opn, y.q, y.c, x.u⟩) (u := .string ⟨y.c.toArray⟩) (by simp [hl]) (by decide) rfl
  have h6 := h5.set_ L7_len (i := i) (j := 6) (x := ⟨y.id, y.inst, y.acq, y.opn, y.q, y.c, x.u⟩) (y := y) (u := .string ⟨y.u.toArray⟩) (by simp [hl]) (by decide) rfl
  simpa using h6
def zLot : Value := .agg #[.string ⟨#[]⟩, .string ⟨#[]⟩, .int .i64 0, .int .i64 0, .string ⟨#[]⟩, .string ⟨#[]⟩, .string ⟨#[]⟩]
theorem zero_lot (w : World) : (zeroValue 39).run Tryz.prog w = .ok zLot w := by kernel_rfl
theorem zero_one (n : Nat) : ∀ v ∈ (Builtin.zeroCells zLot.cells n).toList, v.oneCell' = true := by
  intro v hv
  simp only [Builtin.zeroCells, Array.toList_map, List.mem_map] at hv
  obtain ⟨i, _, rfl⟩ := hv
  show (zLot.cells[i % 7]!).oneCell' = true
  have h : i % 7 = 0 ∨ i % 7 = 1 ∨ i % 7 = 2 ∨ i % 7 = 3 ∨ i % 7 = 4 ∨ i % 7 = 5 ∨ i % 7 = 6 := by omega
  rcases h with h | h | h | h | h | h | h <;> rw [h] <;> rfl
theorem zero_len (n : Nat) : (Builtin.zeroCells zLot.cells n).toList.length = n * 7 := by
  simp only [Builtin.zeroCells, Array.toList_map, List.length_map]
  rw [show zLot.cells.size = 7 from rfl]
  simp
end Go.Proofs.YtbnfgbcgpbdpcaaGreatDoor
