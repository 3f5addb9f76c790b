/- Merged texts: Lp3, Lp4. -/
import Derived.Test.YtbnfgbcgpbdpcaaGreatDoorQGW13
/- What a mapping makes of lots, plain: the new lots and the old ones are valid. -/
namespace Go.Proofs.YtbnfgbcgpbdpcaaGreatDoor
open Go.RowKit Go.Shelf

theorem getD_of {l : List Int} {i : Nat} {a : Int} (h : l[i]? = some a) : l.getD i 0 = a := by rw [List.getD_eq_getElem?_getD, h]; rfl
theorem cntN_succ (n : List Int) (i : Nat) (hi : i < n.length) : cntN n (i + 1) = cntN n i + if n.getD i 0 = 0 then 0 else 1 := by
  unfold cntN
  rw [List.take_succ_eq_append_getElem hi, List.countP_append, getD_of (List.getElem?_eq_getElem hi)]
  by_cases h : n[i] = 0 <;> simp [h]
theorem cntN_le (n : List Int) (i : Nat) : cntN n i ≤ i := by
  unfold cntN
  exact Nat.le_trans List.countP_le_length (by rw [List.length_take]; omega)
theorem cntN_all (n : List Int) : cntN n n.length = n.countP (fun a => decide (a ≠ 0)) := by unfold cntN; rw [List.take_length]
theorem newId_inj {c : List UInt8} {j k : Nat} (h : newId c j = newId c k) : j = k := by
  unfold newId at h
  have h1 := List.append_cancel_left h
  injection h1 with _ h2
  have := congrArg valD h2
  rwa [valD_digs, valD_digs] at this
theorem freshTo_ids (m : Mp) (x : Plan) (old : List Lot) (hn : x.n.length = old.length) (i : Nat) (hi : i ≤ old.length) :
    (freshTo m x old i).map (fun z => z.2.id) = (List.range (cntN x.n i)).map (fun k => newId m.cause (k + 1)) := by
  induction i with
  | zero => simp [freshTo, cntN]
  | succ i ih =>
    have hlt : i < old.length := by omega
    rw [freshTo_succ, List.map_append, ih (by omega), cntN_succ _ _ (by omega), List.getElem?_eq_getElem hlt]
    by_cases h : x.n.getD i 0 = 0
    · simp only [if_pos h]; simp
    · simp only [if_neg h]
      rw [List.range_succ, List.map_append]
      rfl
theorem madeL_ids (m : Mp) (x : Plan) (old : List Lot) (hn : x.n.length = old.length) : (madeL m x old).map (·.id) = (List.range (cntN x.n old.length)).map (fun k => newId m.cause (k + 1)) := by
  unfold madeL freshL
  rw [List.map_map]
  exact freshTo_ids m x old hn _ (Nat.le_refl _)
theorem madeL_nodup (m : Mp) (x : Plan) (old : List Lot) (hn : x.n.length = old.length) : ((madeL m x old).map (·.id)).Nodup := by
  rw [madeL_ids m x old hn]
  unfold List.Nodup
  rw [List.pairwise_map]
  exact List.Pairwise.imp (fun h e => h (by have := newId_inj e; omega)) List.nodup_range
theorem mem_madeL {m : Mp} {x : Plan} {old : List Lot} {z : Lot} (h : z ∈ madeL m x old) : ∃ i y, old[i]? = some y ∧ x.n.getD i 0 ≠ 0 ∧ z = newL m x old.length i y := by
  unfold madeL freshL freshTo at h
  obtain ⟨p, hp, rfl⟩ := List.mem_map.1 h
  obtain ⟨i, _, hi⟩ := List.mem_filterMap.1 hp
  cases ho : old[i]? with
  | none => rw [ho] at hi; cases hi
  | some y =>
    rw [ho] at hi
    by_cases h0 : x.n.getD i 0 = 0
    · simp only [if_pos h0] at hi; cases hi
    · simp only [if_neg h0, Option.some.injEq] at hi
      subst hi
      exact ⟨i, y, ho, h0, rfl⟩
theorem takeWhile_name {c : List UInt8} (h : nameB c = true) (l : List UInt8) : (c ++ 47 :: l).takeWhile (· != 47) = c ∧ ((c ++ 47 :: l).dropWhile (· != 47)).drop 1 = l := by
  have hc : ∀ b ∈ c, (b != 47) = true := by
    unfold nameB at h
    simp only [Bool.and_eq_true] at h
    intro b hb
    have := List.all_eq_true.1 h.2 b hb
    cases e : b == 47 with
    | false => simp only [bne, e]; rfl
    | true =>
      have := eq_of_beq e
      subst this
      exact absurd this (by decide)
  rw [List.takeWhile_append_of_pos hc, List.dropWhile_append_of_pos hc]
  simp
theorem idB_newId {c : List UInt8} (h : nameB c = true) {k : Nat} (h1 : 1 ≤ k) (h2 : k ≤ 9999) : idB (newId c k) = true := by
  obtain ⟨e1, e2⟩ := takeWhile_name h (digs k)
  unfold idB newId
  rw [e1, e2, h]
  have hn : numB (digs k) = true := by
    unfold numB
    obtain ⟨b, l, e, hb, _⟩ := digs_head k (by omega)
    have h3 := digs_length (m := k) (L := 4) (by omega)
    have h4 := digs_pos k (by omega)
    rw [digs_dig, decide_eq_true h3, decide_eq_true h4, e]
    have h5 : (some b : Option UInt8) ≠ some 48 := fun e2 => by
      injection e2 with e2
      subst e2
      exact absurd hb (by decide)
    rw [List.head?_cons, decide_eq_true h5]
    rfl
  rw [hn]
  simp
theorem sum_nonneg_map {α : Type} {l : List α} {g : α → Int} (h : ∀ a ∈ l, 0 ≤ g a) : 0 ≤ (l.map g).sum := by
  refine sum_nonneg_ fun z hz => ?_
  obtain ⟨a, ha, rfl⟩ := List.mem_map.1 hz
  exact h a ha
/-- A plan of valid lots, at one lot. -/
structure PlanAt (x : Plan) (i : Nat) (y : Lot) : Prop where
  n : 0 ≤ x.n.getD i 0
  m0 : 0 ≤ x.m.getD i 0
  m1 : x.m.getD i 0 ≤ val y.c
  f0 : 0 ≤ x.f.getD i 0
  f1 : x.f.getD i 0 ≤ x.m.getD i 0
  p : 0 ≤ x.p.getD i 0
theorem planL_lens (old : List Lot) (m : Mp) : (planL old m).n.length = old.length ∧ (planL old m).m.length = old.length ∧ (planL old m).f.length = old.length ∧ (planL old m).p.length = old.length := by
  unfold planL
  simp [divS_length]
theorem planL_sums {old : List Lot} {m : Mp} (h : ∀ y ∈ old, y.Ok) (hm : m.Ok) (ho : old ≠ []) :
    (planL old m).n.sum = (planL old m).parts ∧ (planL old m).m.sum = (planL old m).moved ∧ (planL old m).f.sum = (planL old m).taken ∧ (planL old m).p.sum = (planL old m).cash ∧ 0 < (old.map fun y => val y.q).sum := by
  obtain ⟨hq, hc⟩ := old_nonneg h
  have hok := planL_ok h hm
  have hqs : 0 < (old.map fun y => val y.q).sum := by
    cases old with
    | nil => exact absurd rfl ho
    | cons a l =>
      have h1 := (h a (by simp)).q0
      have h2 := le_sum_ hq (x := val a.q) (by simp)
      omega
  have hm1 := hok.moved1
  have hm0 := hok.moved0
  have hms : (planL old m).m.sum = (planL old m).moved := divS_sum hc (by show 0 < _ ∨ (planL old m).moved = 0; omega)
  refine ⟨divS_sum hq (.inl hqs), hms, ?_, divS_sum hq (.inl hqs), hqs⟩
  have hmn : ∀ z ∈ (planL old m).m, 0 ≤ z := divS_nonneg hok.moved0 hc
  have ht0 := hok.taken0
  have ht1 := hok.taken1
  exact divS_sum hmn (by show 0 < (planL old m).m.sum ∨ (planL old m).taken = 0; rw [hms]; omega)
theorem planL_at {old : List Lot} {m : Mp} (h : ∀ y ∈ old, y.Ok) (hm : m.Ok) (ho : old ≠ []) {i : Nat} {y : Lot} (hi : old[i]? = some y) : PlanAt (planL old m) i y := by
  obtain ⟨hq, hc⟩ := old_nonneg h
  have hok := planL_ok h hm
  obtain ⟨l1, l2, l3, l4⟩ := planL_lens old m
  obtain ⟨s1, s2, s3, s4, _⟩ := planL_sums h hm ho
  have hlt := (List.getElem?_eq_some_iff.1 hi).1
  have hn : (planL old m).n[i]? = some ((planL old m).n[i]'(by omega)) := List.getElem?_eq_getElem _
  have hmm : (planL old m).m[i]? = some ((planL old m).m[i]'(by omega)) := List.getElem?_eq_getElem _
  have hf : (planL old m).f[i]? = some ((planL old m).f[i]'(by omega)) := List.getElem?_eq_getElem _
  have hp : (planL old m).p[i]? = some ((planL old m).p[i]'(by omega)) := List.getElem?_eq_getElem _
  have hqi : (old.map fun y => val y.q)[i]? = some (val y.q) := by rw [List.getElem?_map, hi]; rfl
  have hci : (old.map fun y => val y.c)[i]? = some (val y.c) := by rw [List.getElem?_map, hi]; rfl
  have hmn : ∀ z ∈ (planL old m).m, 0 ≤ z := divS_nonneg hok.moved0 hc
  have a1 := divS_bounds hok.parts0 hq hn hqi
  have a2 := divS_bounds hok.moved0 hc hmm hci
  have a3 := divS_bounds hok.taken0 hmn hf hmm
  have a4 := divS_bounds hok.cash0 hq hp hqi
  refine ⟨?_, ?_, ?_, ?_, ?_, ?_⟩
  · rw [getD_of hn]; exact a1.1
  · rw [getD_of hmm]; exact a2.1
  · rw [getD_of hmm]; exact a2.2 hok.moved1
  · rw [getD_of hf]; exact a3.1
  · rw [getD_of hf, getD_of hmm]; exact a3.2 (by rw [s2]; exact hok.taken1)
  · rw [getD_of hp]; exact a4.1
theorem rest_nonneg {old : List Lot} {m : Mp} (h : ∀ y ∈ old, y.Ok) (hm : m.Ok) (ho : old ≠ []) {k : Nat} (hk : k ≤ old.length) : 0 ≤ (planL old m).rest k := by
  unfold Plan.rest
  refine sum_nonneg_map fun j hj => ?_
  have hj := List.mem_range.1 (List.mem_filter.1 hj).1
  have hy : old[j]? = some (old[j]'(by omega)) := List.getElem?_eq_getElem _
  have := (planL_at h hm ho hy)
  unfold Plan.mv
  have := this.f1
  omega
theorem newL_ok {old : List Lot} {m : Mp} (h : ∀ y ∈ old, y.Ok) (hm : m.Ok) (ho : old ≠ []) (hl : old.length ≤ 1000) {i : Nat} {y : Lot} (hi : old[i]? = some y) (hn : (planL old m).n.getD i 0 ≠ 0) : (newL m (planL old m) old.length i y).Ok := by
  have hy := h y (List.mem_of_getElem? hi)
  have ha := planL_at h hm ho hi
  have hr := rest_nonneg h hm ho (Nat.le_refl old.length)
  have hlt := (List.getElem?_eq_some_iff.1 hi).1
  have hc := cntN_le (planL old m).n i
  have h1 := ha.n
  have h2 := ha.f1
  refine ⟨idB_newId hm.cause (by omega) (by omega), hm.other, hy.acq, hy.opn, hy.ord, canB_txtL _, canB_txtL _, ?_, ?_, .inr rfl⟩
  · show 0 < val (txtL _)
    rw [val_txtL]; omega
  · show 0 ≤ val (txtL _)
    rw [val_txtL]
    unfold Plan.mv
    split <;> omega

/-! The lots that stay. -/
theorem keptL_ids (m : Mp) (ms : List Int) (k : Nat) (l : List Lot) : ((keptL m ms k l).map (·.id)).Sublist (l.map (·.id)) := by
  induction l generalizing k with
  | nil => simp [keptL]
  | cons a l ih =>
    unfold keptL
    split
    · split
      · simp only [List.map_cons]
        exact (ih (k + 1)).cons_cons _
      · exact (ih (k + 1)).cons _
    · exact (ih k).cons_cons _
theorem keptL_ok (m : Mp) (ms : List Int) (k : Nat) (l : List Lot) (h : ∀ y ∈ l, y.Ok) (hm : ∀ j y, (lotsOf l m.inst)[j]? = some y → ms.getD (k + j) 0 ≤ val y.c) : ∀ z ∈ keptL m ms k l, z.Ok := by
  induction l generalizing k with
  | nil => intro z hz; simp [keptL] at hz
  | cons a l ih =>
    have hl : ∀ y ∈ l, y.Ok := fun y hy => h y (by simp [hy])
    unfold keptL
    by_cases ha : a.inst = m.inst
    · have e : lotsOf (a :: l) m.inst = a :: lotsOf l m.inst := by unfold lotsOf; rw [List.filter_cons, ha]; simp
      have hm' : ∀ j y, (lotsOf l m.inst)[j]? = some y → ms.getD (k + 1 + j) 0 ≤ val y.c := by
        intro j y hj
        have := hm (j + 1) y (by rw [e]; simpa using hj)
        rwa [show k + (j + 1) = k + 1 + j by omega] at this
      rw [if_pos ha]
      split
      · intro z hz
        rcases List.mem_cons.1 hz with rfl | hz
        · have hok := h a (by simp)
          have h0 := hm 0 a (by rw [e]; rfl)
          refine ⟨hok.id, hok.inst, hok.acq, hok.opn, hok.ord, hok.q, canB_txtL _, hok.q0, ?_, hok.u⟩
          show 0 ≤ val (txtL _)
          rw [val_txtL]
          simp only [Nat.add_zero] at h0
          omega
        · exact ih (k + 1) hl hm' z hz
      · exact ih (k + 1) hl hm'
    · have e : lotsOf (a :: l) m.inst = lotsOf l m.inst := by unfold lotsOf; rw [List.filter_cons]; simp [ha]
      rw [if_neg ha]
      rw [e] at hm
      intro z hz
      rcases List.mem_cons.1 hz with rfl | hz
      · exact h _ (by simp)
      · exact ih k hl hm z hz
theorem lotsOf_ok {ls : List Lot} (h : LotsOk ls) (i : List UInt8) : ∀ y ∈ lotsOf ls i, y.Ok := fun y hy => h.ok y (List.mem_filter.1 hy).1
theorem lotsOf_len (ls : List Lot) (i : List UInt8) : (lotsOf ls i).length ≤ ls.length := List.length_filter_le _ _
theorem kept_lotsOk {ls : List Lot} {m : Mp} (h : LotsOk ls) (hm : m.Ok) (ho : lotsOf ls m.inst ≠ []) : LotsOk (keptL m (planL (lotsOf ls m.inst) m).m 0 ls) := by
  have hs := keptL_ids m (planL (lotsOf ls m.inst) m).m 0 ls
  refine ⟨?_, ?_, hs.nodup h.ids⟩
  · have := hs.length_le
    simp only [List.length_map] at this
    have := h.len
    omega
  · refine keptL_ok m _ 0 ls h.ok fun j y hj => ?_
    have := (planL_at (lotsOf_ok h _) hm ho hj).m1
    simpa using this
/-- What Map gives, in closed form. -/
structure MapOk (ls : List Lot) (m : Mp) (A B : List Lot) : Prop where
  ok : LotsOk ls
  mp : m.Ok
  old : lotsOf ls m.inst ≠ []
  free : ∀ z ∈ madeL m (planL (lotsOf ls m.inst) m) (lotsOf ls m.inst), z.id ∉ ls.map (·.id)
  cut : keptL m (planL (lotsOf ls m.inst) m).m 0 ls = A ++ B
  at_ : CutAt m.other A B
  len : (A ++ madeL m (planL (lotsOf ls m.inst) m) (lotsOf ls m.inst) ++ B).length ≤ 1000
theorem mapL_case (ls : List Lot) (m : Mp) :
    (∃ e, e ≠ 0 ∧ mapL ls m = (Res.none, e)) ∨
    (LotsOk ls ∧ m.Ok ∧ lotsOf ls m.inst = [] ∧ mapL ls m = (⟨ls, [], []⟩, 0)) ∨
    (∃ A B, MapOk ls m A B ∧ mapL ls m = (⟨A ++ madeL m (planL (lotsOf ls m.inst) m) (lotsOf ls m.inst) ++ B, gainL m (planL (lotsOf ls m.inst) m) (lotsOf ls m.inst), stpL m (planL (lotsOf ls m.inst) m) (lotsOf ls m.inst)⟩, 0)) := by
  unfold mapL
  by_cases h1 : allC ls ≠ 0 ∨ mpC m ≠ 0
  · rw [if_pos h1]; exact .inl ⟨1, by omega, rfl⟩
  · rw [if_neg h1]
    have hl : LotsOk ls := (allC_ok ls).1 (Classical.not_not.1 (fun h => h1 (.inl h)))
    have hm : m.Ok := (mpC_ok m).1 (Classical.not_not.1 (fun h => h1 (.inr h)))
    simp only
    by_cases h2 : lotsOf ls m.inst = []
    · rw [if_pos h2]; exact .inr (.inl ⟨hl, hm, h2, rfl⟩)
    · rw [if_neg h2]
      by_cases h3 : ((madeL m (planL (lotsOf ls m.inst) m) (lotsOf ls m.inst)).any fun z => decide (z.id ∈ ls.map (·.id))) = true
      · rw [if_pos h3]; exact .inl ⟨5, by omega, rfl⟩
      · rw [if_neg h3]
        have hfree : ∀ z ∈ madeL m (planL (lotsOf ls m.inst) m) (lotsOf ls m.inst), z.id ∉ ls.map (·.id) := by
          intro z hz hin
          apply h3
          rw [List.any_eq_true]
          exact ⟨z, hz, by simpa using hin⟩
        obtain ⟨A, B, e, hc⟩ := cutAt_of (keptL m (planL (lotsOf ls m.inst) m).m 0 ls) m.other
        have hk := kept_lotsOk hl hm h2
        have hsub := keptL_ids m (planL (lotsOf ls m.inst) m).m 0 ls
        rw [e] at hk hsub
        have heq := openAll_eq m.other (madeL m (planL (lotsOf ls m.inst) m) (lotsOf ls m.inst)) A B hc hk (by
          intro z hz
          obtain ⟨i, y, hy, hn, rfl⟩ := mem_madeL hz
          refine ⟨newL_ok (lotsOf_ok hl _) hm h2 (Nat.le_trans (lotsOf_len _ _) hl.len) hy hn, rfl, fun hin => hfree _ hz (hsub.subset hin)⟩)
          (madeL_nodup m _ _ (planL_lens _ m).1)
        rw [e, heq]
        by_cases h4 : madeL m (planL (lotsOf ls m.inst) m) (lotsOf ls m.inst) = [] ∨ (A ++ B).length + (madeL m (planL (lotsOf ls m.inst) m) (lotsOf ls m.inst)).length ≤ 1000
        · rw [if_pos h4]
          refine .inr (.inr ⟨A, B, ⟨hl, hm, h2, hfree, e, hc, ?_⟩, rfl⟩)
          have hAB : (A ++ B).length ≤ 1000 := hk.len
          simp only [List.length_append] at h4 hAB ⊢
          rcases h4 with h4 | h4
          · rw [h4]; simp; omega
          · omega
        · rw [if_neg h4]; exact .inl ⟨4, by omega, rfl⟩
end Go.Proofs.YtbnfgbcgpbdpcaaGreatDoor
/- What a mapping makes of lots, plain: sums. -/
namespace Go.Proofs.YtbnfgbcgpbdpcaaGreatDoor
open Go.RowKit Go.Shelf

theorem sum_range (l : List Int) : ((List.range l.length).map (fun i => l.getD i 0)).sum = l.sum := by
  induction l with
  | nil => rfl
  | cons a l ih =>
    rw [List.length_cons, List.range_succ_eq_map, List.map_cons, List.sum_cons, List.map_map, List.sum_cons, ← ih]
    rfl
theorem sum_map_add (l : List Nat) (f g : Nat → Int) : (l.map (fun i => f i + g i)).sum = (l.map f).sum + (l.map g).sum := by
  induction l with
  | nil => rfl
  | cons a l ih => simp only [List.map_cons, List.sum_cons, ih]; omega
theorem sum_range_succ (f : Nat → Int) (i : Nat) : ((List.range (i + 1)).map f).sum = ((List.range i).map f).sum + f i := by
  rw [List.range_succ, List.map_append, sum_append_]
  simp
theorem rest_succ (x : Plan) (i : Nat) : x.rest (i + 1) = x.rest i + if x.n.getD i 0 = 0 then x.mv i else 0 := by
  unfold Plan.rest
  rw [List.range_succ, List.filter_append, List.map_append, sum_append_]
  by_cases h : x.n.getD i 0 = 0
  · rw [if_pos h, List.filter_cons, if_pos (by simp only [h]; rfl)]
    simp
  · rw [if_neg h, List.filter_cons, if_neg (by simp only [decide_eq_true_eq]; exact h)]
    simp
theorem sum_moves (x : Plan) (len : Nat) (hm : x.m.length = len) (hf : x.f.length = len) : ((List.range len).map x.mv).sum = x.m.sum - x.f.sum := by
  rw [← sum_range x.m, ← sum_range x.f, hm, hf]
  generalize List.range len = l
  induction l with
  | nil => rfl
  | cons a l ih =>
    simp only [List.map_cons, List.sum_cons, ih]
    unfold Plan.mv
    omega
theorem fresh_q (m : Mp) (x : Plan) (old : List Lot) (i : Nat) (hi : i ≤ old.length) : ((freshTo m x old i).map (fun z => val z.2.q)).sum = ((List.range i).map (fun k => x.n.getD k 0)).sum := by
  induction i with
  | zero => rfl
  | succ i ih =>
    rw [freshTo_succ, List.map_append, sum_append_, ih (by omega), sum_range_succ, List.getElem?_eq_getElem (show i < old.length by omega)]
    by_cases h : x.n.getD i 0 = 0
    · simp only [if_pos h]; simp only [List.map_nil, List.sum_nil, h]
    · simp only [if_neg h, List.map_cons, List.map_nil, List.sum_cons, List.sum_nil]
      show _ + (val (txtL _) + 0) = _
      rw [val_txtL]
      omega
theorem fresh_c (m : Mp) (x : Plan) (old : List Lot) (hn : x.n.length = old.length) (i : Nat) (hi : i ≤ old.length) :
    ((freshTo m x old i).map (fun z => val z.2.c)).sum = ((List.range i).map x.mv).sum - x.rest i + if cntN x.n i = 0 then 0 else x.rest old.length := by
  induction i with
  | zero => simp [freshTo, Plan.rest, cntN]
  | succ i ih =>
    rw [freshTo_succ, List.map_append, sum_append_, ih (by omega), sum_range_succ, rest_succ, cntN_succ _ _ (by omega), List.getElem?_eq_getElem (show i < old.length by omega)]
    by_cases h : x.n.getD i 0 = 0
    · simp only [if_pos h, List.map_nil, List.sum_nil, Nat.add_zero]; omega
    · simp only [if_neg h, List.map_cons, List.map_nil, List.sum_cons, List.sum_nil]
      show _ + (val (txtL _) + 0) = _
      rw [val_txtL, if_neg (show ¬ cntN x.n i + 1 = 0 by omega)]
      split <;> omega
theorem count_zero {n : List Int} (h : n.countP (fun a => decide (a ≠ 0)) = 0) : n.sum = 0 := by
  rw [List.countP_eq_zero] at h
  have h2 : ∀ a ∈ n, a = 0 := fun a ha => by have := h a ha; simpa using this
  clear h
  induction n with
  | nil => rfl
  | cons a l ih =>
    rw [List.sum_cons, h2 a (by simp), ih (fun b hb => h2 b (by simp [hb]))]
    rfl
section
variable {ls : List Lot} {m : Mp}
theorem madeL_q (h : ∀ y ∈ ls, y.Ok) (hm : m.Ok) (ho : ls ≠ []) : ((madeL m (planL ls m) ls).map (fun z => val z.q)).sum = (planL ls m).parts := by
  unfold madeL freshL
  rw [List.map_map]
  have e := fresh_q m (planL ls m) ls ls.length (Nat.le_refl _)
  have hl := (planL_lens ls m).1
  have e2 := sum_range (planL ls m).n
  rw [hl] at e2
  rw [e2, (planL_sums h hm ho).1] at e
  exact e
theorem madeL_c (h : ∀ y ∈ ls, y.Ok) (hm : m.Ok) (ho : ls ≠ []) : ((madeL m (planL ls m) ls).map (fun z => val z.c)).sum = (planL ls m).moved - (planL ls m).taken := by
  unfold madeL freshL
  rw [List.map_map]
  obtain ⟨l1, l2, l3, l4⟩ := planL_lens ls m
  obtain ⟨s1, s2, s3, s4, s5⟩ := planL_sums h hm ho
  have hok := planL_ok h hm
  have e := fresh_c m (planL ls m) ls l1 ls.length (Nat.le_refl _)
  rw [sum_moves _ _ l2 l3, s2, s3] at e
  refine Eq.trans e ?_
  split
  · rename_i h0
    have h1 := cntN_all (planL ls m).n
    rw [l1, h0] at h1
    have h2 := count_zero h1.symm
    rw [s1] at h2
    have hp : (planL ls m).part ≠ 0 := by
      intro hp
      have e1 : (planL ls m).exact - ((flo (planL ls m).exact : Int) : Rat) = 0 := hp
      have e2 : flo (planL ls m).exact = 0 := h2
      rw [e2] at e1
      have e3 : (planL ls m).exact = 0 := by
        have := Rat.sub_eq_add_neg (planL ls m).exact ((0 : Int) : Rat)
        rw [e1] at this
        have h0 : (-(((0 : Int) : Rat))) = 0 := rfl
        rw [h0, Rat.add_zero] at this
        exact this.symm
      have e4 := hok.ex
      rw [e3] at e4
      have e5 : (0 : Rat) < ((((ls.map fun y => val y.q).sum : Int)) : Rat) := by exact_mod_cast s5
      have e6 := Rat.mul_pos e5 hm.r0
      rw [← e4] at e6
      exact absurd e6 (Rat.lt_irrefl)
    have ht := hok.none hp h2
    have hr : (planL ls m).rest ls.length = ((List.range ls.length).map (planL ls m).mv).sum := by
      unfold Plan.rest
      rw [List.filter_eq_self.2]
      intro k hk
      have hk := List.mem_range.1 hk
      rw [eq_comm, List.countP_eq_zero] at h1
      have := h1 _ (List.getElem_mem (show k < (planL ls m).n.length by omega))
      rw [getD_of (List.getElem?_eq_getElem (show k < (planL ls m).n.length by omega))]
      simpa using this
    rw [hr, sum_moves _ _ l2 l3, s2, s3]
    omega
  · omega
end
end Go.Proofs.YtbnfgbcgpbdpcaaGreatDoor
