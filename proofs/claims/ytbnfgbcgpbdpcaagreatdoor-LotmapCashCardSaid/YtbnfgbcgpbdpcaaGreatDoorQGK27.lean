/- Merged texts: Ca, Wc, Wf, LK. -/
import Derived.Test.YtbnfgbcgpbdpcaaGreatDoorPreqGK
import Derived.Test.YtbnfgbcgpbdpcaaGreatDoorQGK25
import Derived.Deep.RegionHeld3
import Derived.Deep.DrawnRows
import Derived.Deep.DeepCutAuto
import Derived.Test.YtbnfgbcgpbdpcaaGreatDoorQGK21
import Derived.Test.YtbnfgbcgpbdpcaaGreatDoorQGK26
import Derived.Test.YtbnfgbcgpbdpcaaGreatDoorQGK12
/- Contract of lotmap.Cash. -/
namespace Go.Proofs.YtbnfgbcgpbdpcaaGreatDoor
open Go.RowKit Go.Shelf
attribute [local go_sem ↓] Go.wp_at_zero Go.wp_at_succ ld84_eq st84_eq

/-- What Cash gives. -/
def cashL (ls : List Lot) (m : Mp) : List UInt8 × Int :=
  if allC ls = 0 ∧ mpC m = 0 then (txtL (planL (lotsOf ls m.inst) m).p.sum, 0) else ([], 1)
def CashPost (r : List UInt8 × Int) (w : World) (e : Ending) (w' : World) : Prop := e = .returned (.tuple #[S r.1, .int .i64 r.2]) ∧ Below w.heap.size w w'
theorem fld_plan_p (W : World) (v : PlV) : (Instr.field 88 (.agg (plB v)) 7).run Tryz.prog W = .ok v.p W := by kernel_rfl
theorem row_len {l : List Int} {K : Nat} (h : ∀ i, (l.getD i 0).natAbs < 10 ^ K) : ∀ t ∈ l.map txtL, t.length ≤ K + 1 := by
  intro t ht
  obtain ⟨z, hz, rfl⟩ := List.mem_map.1 ht
  obtain ⟨i, hi⟩ := List.getElem?_of_mem hz
  have := h i
  rw [getD_of hi] at this
  exact txtL_length this
theorem row_sum {l : List Int} {K : Nat} (h : ∀ i, (l.getD i 0).natAbs < 10 ^ K) (hl : l.length ≤ 1000) : l.sum.natAbs < 10 ^ (K + 4) := by
  have h1 := sum_lt (l := l) (g := fun z => z) (L := K) (fun a ha => by
    obtain ⟨i, hi⟩ := List.getElem?_of_mem ha
    have := h i
    rwa [getD_of hi] at this) hl
  rwa [List.map_id'] at h1
set_option maxRecDepth 100000 in
set_option maxHeartbeats 4000000 in
theorem cash_any (A : Option Addr) (n c : Nat) (ls : List Lot) (m : Mp) (w : World) (L : Nat) (hp : Env w) (hs : Lots w w.heap.size A n ls) (hn : n ≤ 9999) (hl : ∀ y ∈ ls, y.Sz 50000) (hm : m.Sz 5000 ∨ m.Bad)
    (hL : L ≤ 100) (hL1 : 1 ≤ L) (hq : ∀ y ∈ ls, y.q.length ≤ L) (hc : ∀ y ∈ ls, y.c.length ≤ L) (hr : m.ratio.Sz L) (hsh : m.share.Sz L) (hpr : m.price.Sz L) :
    Calls Tryz.prog 15 #[.slice A n c, MpV m] w (CashPost (cashL ls m) w) := by
  have HPO := Lib.hid (show CashPost (cashL ls m) w = fun e w' => e = .returned (.tuple #[S (cashL ls m).1, .int .i64 (cashL ls m).2]) ∧ Below w.heap.size w w' from rfl)
  generalize CashPost (cashL ls m) w = post at *
  have HVA := Lib.hid (fun W (hb : Below w.heap.size w W) => valid_any A n c ls m W (hp.here hb) (hs.here hb) hl hm (by omega))
  have HK0 := Lib.hid ((Kp.start hp).new w.heap.size rfl (mpA m).toArray 28)
  rw [mpA_eq] at HK0
  unfold MpV
  rw [mpA_eq]
  unfold MpV at HVA
  rw [mpA_eq] at HVA
  obtain ⟨z0, z1, z2, z3, z4, z5, z6, z7, z8, z9, z10⟩ := mp11 HK0.out (m := m) (i := 0) rfl
  by_cases hv : allC ls = 0 ∧ mpC m = 0
  · have hlok := (allC_ok ls).1 hv.1; have hmok := (mpC_ok m).1 hv.2
    have HMV := Lib.hid (show cashL ls m = (txtL (planL (lotsOf ls m.inst) m).p.sum, 0) from if_pos hv)
    rw [decide_eq_true hv.1, decide_eq_true hv.2] at HVA
    have HPR := Lib.hid (fun W (hb : Below w.heap.size w W) => prepare_any A n c ls m W L (hp.here hb) (hs.here hb) hlok hmok hL hL1 hq hc hr hsh hpr)
    unfold MpV at HPR
    rw [mpA_eq] at HPR
    have hlo : (lotsOf ls m.inst).length ≤ 1000 := Nat.le_trans (lotsOf_len ls m.inst) hlok.len
    have hplk := planL_k (lotsOf_ok hlok m.inst) hmok hlo hL1 (fun y hy => hq y (List.mem_filter.1 hy).1) (fun y hy => hc y (List.mem_filter.1 hy).1) hr hpr
    obtain ⟨l1, l2, l3, l4⟩ := planL_lens (lotsOf ls m.inst) m
    have HPK := Lib.hid hplk; have HL4 := Lib.hid l4; have HLO := Lib.hid hlo; have HLL := Lib.hid hL
    generalize cashL ls m = mv at *
    clear hp hs hn hl hm hq hc hr hsh hpr hL hL1 hv hlok hmok hplk l1 l2 l3 l4 hlo
    unfold S at *
    go_enter Tryz.func15, Tryz.ntmps15
    go_wp2_with fail
    generalize w.alloc (.cells #[.string ⟨m.cause.toArray⟩, .int .i64 m.day, .string ⟨m.inst.toArray⟩, .string ⟨m.other.toArray⟩, .string ⟨m.ratio.n.toArray⟩, .string ⟨m.ratio.d.toArray⟩, .string ⟨m.share.n.toArray⟩, .string ⟨m.share.d.toArray⟩, .string ⟨m.price.n.toArray⟩, .string ⟨m.price.d.toArray⟩, .bool m.keep] 28) = W0 at *
    refine (HVA.out _ HK0.out.bl).mono ?_
    rintro e w1 ⟨rfl, hb1⟩
    have HK1 := Lib.hid (HK0.out.here hb1)
    clear hb1 HK0 HVA z0 z1 z2 z3 z4 z5 z6 z7 z8 z9 z10
    obtain ⟨z0, z1, z2, z3, z4, z5, z6, z7, z8, z9, z10⟩ := mp11 HK1.out (m := m) (i := 0) rfl
    go_wp2_with fail
    refine (HPR.out _ HK1.out.bl).mono ?_
    rintro e w2 ⟨v, pn, pm, pf, pp, rfl, hvm, hM, hb2⟩
    have HK2 := Lib.hid (HK1.out.here hb2)
    have hfl := fld_plan_p w2 v
    rw [hM.ep] at hfl
    have HSA := Lib.hid (show Calls Tryz.prog 46 #[.slice (some ⟨pp, 0, none⟩) v.on v.on] w2 fun e w' => e = .returned (.string ⟨(txtL (planL (lotsOf ls m.inst) m).p.sum).toArray⟩) ∧ Below w2.heap.size w2 w' from by
      have h := mSum_any (some ⟨pp, 0, none⟩) v.on v.on ((planL (lotsOf ls m.inst) m).p.map txtL) w2 HK2.out.pw (partA_strs hM.bp (by rw [HL4.out]; exact hM.len.symm)) (fun t ht => Nat.le_trans (row_len HPK.out.p t ht) (by have := HLL.out; omega)) (by rw [hM.len]; have := HLO.out; omega)
      rw [sumV_map] at h
      exact h)
    clear z0 z1 z2 z3 z4 z5 z6 z7 z8 z9 z10 hM hb2 HK1 HPR hvm HPK HL4 HLO HLL
    generalize plB v = pb at *
    generalize v.on = N at *
    generalize txtL (planL (lotsOf ls m.inst) m).p.sum = tp at *
    go_wp2_with fail
    refine HSA.out.mono ?_
    rintro e w3 ⟨rfl, hb3⟩
    clear hfl HSA
    go_wp2_with fail
    first | go_ret | skip
    rw [HPO.out, HMV.out]
    exact ⟨rfl, (HK2.out.here hb3).bl⟩
  · have HMV := Lib.hid (show cashL ls m = ([], 1) from if_neg hv)
    have hvb : (decide (allC ls = 0) && decide (mpC m = 0)) = false := by
      by_cases h1 : allC ls = 0
      · rw [decide_eq_true h1, decide_eq_false (fun h2 => hv ⟨h1, h2⟩)]; rfl
      · rw [decide_eq_false h1]; rfl
    rw [hvb] at HVA
    generalize cashL ls m = mv at *
    clear hp hs hn hl hm hq hc hr hsh hpr hL hL1 hv hvb
    unfold S at *
    go_enter Tryz.func15, Tryz.ntmps15
    go_wp2_with fail
    generalize w.alloc (.cells #[.string ⟨m.cause.toArray⟩, .int .i64 m.day, .string ⟨m.inst.toArray⟩, .string ⟨m.other.toArray⟩, .string ⟨m.ratio.n.toArray⟩, .string ⟨m.ratio.d.toArray⟩, .string ⟨m.share.n.toArray⟩, .string ⟨m.share.d.toArray⟩, .string ⟨m.price.n.toArray⟩, .string ⟨m.price.d.toArray⟩, .bool m.keep] 28) = W0 at *
    refine (HVA.out _ HK0.out.bl).mono ?_
    rintro e w1 ⟨rfl, hb1⟩
    go_wp2_with fail
    first | go_ret | skip
    rw [HPO.out, HMV.out]
    exact ⟨rfl, (HK0.out.here hb1).bl⟩
end Go.Proofs.YtbnfgbcgpbdpcaaGreatDoor
/- The law LotmapCash: plain facts that its walk asks for. -/
namespace Go.Proofs.YtbnfgbcgpbdpcaaGreatDoor
open Go.RowKit Go.Shelf

/-- The proceeds of gains. -/
def sumP (l : List Gain) : Int := (l.map (fun g => val g.proceeds)).sum
/-- What remains of all quantities together. -/
def restT (ls : List Lot) (m : Mp) : Rat := ((sumQ (lotsOf ls m.inst) : Int) : Rat) * m.ratio.rat - ((flo (((sumQ (lotsOf ls m.inst) : Int) : Rat) * m.ratio.rat) : Int) : Rat)
theorem gain_mem {m : Mp} {x : Plan} {old : List Lot} {g : Gain} (h : g ∈ gainL m x old) : g.cause = m.cause ∧ g.closed = m.day ∧ g.inst = m.other ∧ g.q = [] ∧ g.deferred = [] := by
  unfold gainL at h
  split at h
  · cases h
  · unfold gainTo at h
    obtain ⟨k, _, hk⟩ := List.mem_filterMap.1 h
    cases hy : old[k]? with
    | none => rw [hy] at hk; cases hk
    | some y =>
      rw [hy] at hk
      dsimp only at hk
      by_cases hc : x.p.getD k 0 = 0 ∧ x.f.getD k 0 = 0
      · rw [if_pos hc] at hk; cases hk
      · rw [if_neg hc] at hk
        obtain rfl := Option.some.inj hk
        exact ⟨rfl, rfl, rfl, rfl, rfl⟩
theorem planL_cash (old : List Lot) (m : Mp) : (planL old m).cash = rnd ((planL old m).part * m.price.rat) := rfl
theorem planL_part (ls : List Lot) (m : Mp) : (planL (lotsOf ls m.inst) m).part = restT ls m := rfl
theorem cash_facts {ls : List Lot} {m : Mp} (h0 : (mapL ls m).2 = 0) :
    cashL ls m = (txtL (rnd (restT ls m * m.price.rat)), 0) ∧ sumP (mapL ls m).1.gains = rnd (restT ls m * m.price.rat) ∧ (restT ls m = 0 → (mapL ls m).1.gains.length = 0) ∧
    ∀ g ∈ (mapL ls m).1.gains, g.cause = m.cause ∧ g.closed = m.day ∧ g.inst = m.other ∧ g.q = [] ∧ g.deferred = [] := by
  obtain ⟨hl, hm⟩ := mapL_valid h0
  have hc : cashL ls m = (txtL (planL (lotsOf ls m.inst) m).p.sum, 0) := if_pos ⟨(allC_ok ls).2 hl, (mpC_ok m).2 hm⟩
  rw [hc]
  rcases mapL_case ls m with ⟨e, he, h'⟩ | ⟨hl', hm', ho', h'⟩ | ⟨A, B, hM, h'⟩
  · rw [h'] at h0; exact absurd h0 he
  · have h1 : restT ls m = 0 := by
      unfold restT
      rw [ho', show (((sumQ ([] : List Lot) : Int)) : Rat) = 0 from rfl, Rat.zero_mul, show flo (0 : Rat) = 0 from flo_int 0]
      show (0 : Rat) - (0 : Rat) = 0
      first | decide | exact Rat.sub_self | exact Rat.sub_self _ | rfl
    have h2 : rnd (restT ls m * m.price.rat) = 0 := by rw [h1, Rat.zero_mul]; rfl
    rw [h2, h', ho']
    refine ⟨?_, rfl, fun _ => rfl, fun g hg => by cases hg⟩
    have h3 := (planL_lens ([] : List Lot) m).2.2.2
    rw [List.length_eq_zero_iff.1 h3]
    rfl
  · obtain ⟨s1, s2, s3, s4, s5⟩ := planL_sums (lotsOf_ok hM.ok m.inst) hM.mp hM.old
    rw [h', s4, planL_cash, planL_part]
    refine ⟨rfl, ?_, fun h => ?_, fun g hg => gain_mem hg⟩
    · show ((gainL m (plO ls m) (oldO ls m)).map (fun g => val g.proceeds)).sum = _
      rw [hM.gains.2]
      rfl
    · show (gainL m (planL (lotsOf ls m.inst) m) (lotsOf ls m.inst)).length = 0
      unfold gainL
      rw [if_pos (by rw [planL_part]; exact h)]
      rfl
theorem cash_no {ls : List Lot} {m : Mp} (h : (cashL ls m).2 ≠ 0) : (cashL ls m).1 = [] := by
  unfold cashL at h ⊢
  split
  · rename_i hv
    rw [if_pos hv] at h
    exact absurd rfl h
  · rfl
theorem proceedsK {l : List Gain} {k : Nat} {y : Gain} (h : l[k]? = some y) : sumP (l.take (k + 1)) = sumP (l.take k) + val y.proceeds := by
  obtain ⟨hk, rfl⟩ := List.getElem?_eq_some_iff.1 h
  unfold sumP
  rw [List.take_succ_eq_append_getElem hk, List.map_append, sum_append_]
  simp
end Go.Proofs.YtbnfgbcgpbdpcaaGreatDoor
/- The law LotmapWhole: plain facts that its walk asks for. -/
namespace Go.Proofs.YtbnfgbcgpbdpcaaGreatDoor
open Go.RowKit Go.Shelf

/-- What remains of a lot's quantity. -/
def restQ (m : Mp) (y : Lot) : Rat := ((val y.q : Int) : Rat) * m.ratio.rat - ((flo (((val y.q : Int) : Rat) * m.ratio.rat) : Int) : Rat)
theorem frOf_nzW {q : Rat} (h : q ≠ 0) : ((frOf q).n == []) = false := by
  rw [Bool.eq_false_iff]
  intro e
  have h1 : txtL q.num = [] := eq_of_beq e
  have h2 := txtL_nil.1 h1
  exact h (Rat.num_eq_zero.1 h2)
theorem whole_facts {ls : List Lot} {m : Mp} (h0 : (mapL ls m).2 = 0) (hk : m.keep = false) (hw : ∀ y ∈ lotsOf ls m.inst, restQ m y = 0) :
    (mapL ls m).1.gains.length = 0 ∧ (newOf ls (mapL ls m).1.lots).length = (lotsOf ls m.inst).length ∧ ∀ (i : Nat) (y : Lot), (lotsOf ls m.inst)[i]? = some y → ∃ z, (newOf ls (mapL ls m).1.lots)[i]? = some z ∧ z.q = txtL (flo (((val y.q : Int) : Rat) * m.ratio.rat)) ∧ z.c = y.c ∧ z.acq = y.acq ∧ z.opn = y.opn := by
  rcases mapL_case ls m with ⟨e, he, h'⟩ | ⟨hl, hm, ho', h'⟩ | ⟨A, B, hM, h'⟩
  · rw [h'] at h0; exact absurd h0 he
  · rw [h', ho']
    refine ⟨rfl, by show (newOf ls ls).length = _; rw [new_self], fun i y h => by simp at h⟩
  · rw [h']
    obtain ⟨w1, w2, w3⟩ := whole_made (lotsOf_ok hM.ok m.inst) hM.mp hM.old hk hw
    refine ⟨by show (gainL m (planL (lotsOf ls m.inst) m) (lotsOf ls m.inst)).length = 0; rw [w1]; rfl, ?_, fun i y h => ?_⟩
    · show (newOf ls (A ++ mdO ls m ++ B)).length = _
      rw [hM.new]; exact w2
    · obtain ⟨hi, rfl⟩ := List.getElem?_eq_some_iff.1 h
      obtain ⟨z, hz, q1, q2, q3, q4⟩ := w3 i hi
      refine ⟨z, ?_, q1, q2, q3, q4⟩
      show (newOf ls (A ++ mdO ls m ++ B))[i]? = _
      rw [hM.new]; exact hz
theorem old_facts {ls : List Lot} {m : Mp} (h0 : (mapL ls m).2 = 0) : m.ratio.ok ∧ 0 < m.ratio.rat ∧ ∀ y ∈ lotsOf ls m.inst, y.q = txtL (val y.q) ∧ 0 ≤ val y.q := by
  obtain ⟨hl, hm⟩ := mapL_valid h0
  refine ⟨hm.ratio, hm.r0, fun y hy => ?_⟩
  have h := lotsOf_ok hl m.inst y hy
  exact ⟨canB_eq h.q, Int.le_of_lt h.q0⟩
end Go.Proofs.YtbnfgbcgpbdpcaaGreatDoor
/- The walk of the law LotmapCash. -/
namespace Go.Proofs.YtbnfgbcgpbdpcaaGreatDoor
open Go.RowKit Go.Shelf
attribute [local go_sem ↓] Go.wp_at_zero Go.wp_at_succ

theorem sumP_len {xs : List Gain} {K : Nat} (h : ∀ g ∈ xs, g.proceeds.length ≤ K) (hn : xs.length ≤ 1000) (k : Nat) : (txtL (sumP (xs.take k))).length ≤ K + 5 := by
  have h1 := sum_lt (l := xs.take k) (g := fun g => val g.proceeds) (L := K) (fun a ha => val_lt' (h a (List.mem_of_mem_take ha))) (by rw [List.length_take]; omega)
  exact txtL_length h1
theorem cash_cases (ls : List Lot) (m : Mp) : (∃ t, cashL ls m = (t, 0)) ∨ cashL ls m = ([], 1) := by
  unfold cashL
  split
  · exact .inl ⟨_, rfl⟩
  · exact .inr rfl
set_option maxRecDepth 100000 in
set_option maxHeartbeats 8000000 in
theorem cash_walk (A : Option Addr) (n c : Nat) (ls : List Lot) (m : Mp) (w : World) (hp : Env w) (hs : Lots w w.heap.size A n ls) (hnil : (A = none ∧ c = 0) ∨ ∃ a, A = some a) (hn : n ≤ 9223372036854775807) (hi : ∀ y ∈ ls, y.I)
    (hm : m.Max) (hd : -9223372036854775808 ≤ m.day ∧ m.day ≤ 9223372036854775807) :
    Calls Tryz.prog 5 #[.slice A n c, MpV m] w fun e w' => e = .returned (.bool true) ∧ Below w.heap.size w w' := by
  have HGR := Lib.hid (fun W (hb : Below w.heap.size w W) => lwGreat_any A n c ls m W (hs.here hb) hn hm)
  have HAW := Lib.hid (fun W (hb : Below w.heap.size w W) => lwAwake_any W (hp.here hb))
  have HK0 := Lib.hid (show Kp w [(w.heap.size, #[.string ⟨m.cause.toArray⟩, .int .i64 m.day, .string ⟨m.inst.toArray⟩, .string ⟨m.other.toArray⟩, .string ⟨m.ratio.n.toArray⟩, .string ⟨m.ratio.d.toArray⟩, .string ⟨m.share.n.toArray⟩, .string ⟨m.share.d.toArray⟩, .string ⟨m.price.n.toArray⟩, .string ⟨m.price.d.toArray⟩, .bool m.keep], 28)] (w.alloc (.cells #[.string ⟨m.cause.toArray⟩, .int .i64 m.day, .string ⟨m.inst.toArray⟩, .string ⟨m.other.toArray⟩, .string ⟨m.ratio.n.toArray⟩, .string ⟨m.ratio.d.toArray⟩, .string ⟨m.share.n.toArray⟩, .string ⟨m.share.d.toArray⟩, .string ⟨m.price.n.toArray⟩, .string ⟨m.price.d.toArray⟩, .bool m.keep] 28)) from (Kp.start hp).new w.heap.size rfl _ _)
  obtain ⟨z0, z1, z2, z3, z4, z5, z6, z7, z8, z9, z10⟩ := mp11 HK0.out (m := m) (i := 0) rfl
  cases hg : (grtL ls || longM m) with
  | true =>
    rw [hg] at HGR
    clear hp hs hnil hn hi hm hd hg
    unfold MpV at *
    rw [mpA_eq] at *
    go_enter Tryz.func5, Tryz.ntmps5
    go_wp2_with fail
    generalize w.alloc (.cells #[.string ⟨m.cause.toArray⟩, .int .i64 m.day, .string ⟨m.inst.toArray⟩, .string ⟨m.other.toArray⟩, .string ⟨m.ratio.n.toArray⟩, .string ⟨m.ratio.d.toArray⟩, .string ⟨m.share.n.toArray⟩, .string ⟨m.share.d.toArray⟩, .string ⟨m.price.n.toArray⟩, .string ⟨m.price.d.toArray⟩, .bool m.keep] 28) = W0 at *
    refine (HGR.out _ HK0.out.bl).mono ?_
    rintro e w1 ⟨rfl, hb1⟩
    have HK1 := Lib.hid (HK0.out.here hb1)
    clear z0 z1 z2 z3 z4 z5 z6 z7 z8 z9 z10 hb1
    go_wp2_with fail
    refine (HAW.out _ HK1.out.bl).mono ?_
    rintro e w2 ⟨rfl, hb2⟩
    go_wp2_with fail
    first | go_ret | skip
    exact ⟨rfl, (HK1.out.here hb2).bl⟩
  | false =>
    rw [hg] at HGR
    simp only [Bool.or_eq_false_iff] at hg
    obtain ⟨hn2, hsz⟩ := grtL_no hg.1 hi
    obtain ⟨hr, hsh, hpr, hmz⟩ := longM_no hg.2 hd.1 hd.2
    have hn1 : n ≤ 1002 := by rw [hs.1]; exact hn2
    have hmz5 : m.Sz 5000 ∨ m.Bad := hmz.imp (fun h => h.more (by omega)) id
    have hls5 : ∀ y ∈ ls, y.Sz 50000 := fun y hy => (hsz y hy).1.more (by omega)
    have hq13 : ∀ y ∈ ls, y.q.length ≤ 13 := fun y hy => (hsz y hy).2.1
    have hc13 : ∀ y ∈ ls, y.c.length ≤ 13 := fun y hy => (hsz y hy).2.2
    have HNU := Lib.hid (fun W (hb : Below w.heap.size w W) => numbers_any A n c ls m W 13 (hp.here hb) (hs.here hb) hnil (by omega) hls5 hmz5 (by decide) (by decide) hq13 hc13 (hr.more (by omega)) (hsh.more (by omega)) (hpr.more (by omega)))
    have HLEN := Lib.hid (mapL_len (m := m) (L := 13) (by decide) (by decide) (fun y hy => ⟨hq13 y hy, hc13 y hy⟩) hls5 (hr.more (by omega)) (hpr.more (by omega)))
    have HNO := Lib.hid (mapL_no (ls := ls) (m := m)); have HFR := Lib.hid (And.intro hr hpr)
    have HNL := Lib.hid (show numL ls m = if (mapL ls m).2 = 0 then (lotsOf ls m.inst, newOf ls (mapL ls m).1.lots, (mapL ls m).1, true) else ([], [], (mapL ls m).1, false) from rfl)
    have HCA := Lib.hid (fun W (hb : Below w.heap.size w W) => cash_any A n c ls m W 13 (hp.here hb) (hs.here hb) (by omega) hls5 hmz5 (by decide) (by decide) hq13 hc13 (hr.more (by omega)) (hsh.more (by omega)) (hpr.more (by omega)))
    have HP := Lib.hid hp; have HS := Lib.hid hs; have HN1 := Lib.hid hn1
    have HQC := Lib.hid (And.intro hq13 hc13)
    clear hp hs hnil hn hi hm hd hg hn2 hsz hr hsh hpr hn1 hmz hmz5 hls5 hq13 hc13
    unfold CashPost at HCA
    unfold S at HCA
    unfold MpV at *
    rw [mpA_eq] at *
    go_enter Tryz.func5, Tryz.ntmps5
    go_wp2_with fail
    generalize w.alloc (.cells #[.string ⟨m.cause.toArray⟩, .int .i64 m.day, .string ⟨m.inst.toArray⟩, .string ⟨m.other.toArray⟩, .string ⟨m.ratio.n.toArray⟩, .string ⟨m.ratio.d.toArray⟩, .string ⟨m.share.n.toArray⟩, .string ⟨m.share.d.toArray⟩, .string ⟨m.price.n.toArray⟩, .string ⟨m.price.d.toArray⟩, .bool m.keep] 28) = W0 at *
    refine (HGR.out _ HK0.out.bl).mono ?_
    rintro e w1 ⟨rfl, hb1⟩
    have HK1 := Lib.hid (HK0.out.here hb1)
    clear z0 z1 z2 z3 z4 z5 z6 z7 z8 z9 z10 hb1 HGR HK0
    obtain ⟨z0, z1, z2, z3, z4, z5, z6, z7, z8, z9, z10⟩ := mp11 HK1.out (m := m) (i := 0) rfl
    go_wp2_with fail
    refine (HNU.out _ HK1.out.bl).mono ?_
    rintro e w2 ⟨Ao, co, Am, cm, A1, c1, Ag, cg, As, cs, rfl, oO, oM, oL, oG, oS, hb2⟩
    clear z0 z1 z2 z3 z4 z5 z6 z7 z8 z9 z10 HNU
    by_cases h0 : (mapL ls m).2 = 0
    · rw [HNL.out, if_pos h0] at oO oM oL oG oS ⊢
      obtain ⟨hcL, hcS, hcZ, hcM⟩ := cash_facts h0
      obtain ⟨oro, or0, hOF⟩ := old_facts h0
      obtain ⟨_, q2, _, q4, q5, q6⟩ := HLEN.out
      have hoq : ∀ y ∈ lotsOf ls m.inst, y.q.length ≤ 13 := fun y hy => HQC.out.1 y (List.mem_filter.1 hy).1
      have hln : ls.length ≤ 1000 := (mapL_valid h0).1.len
      have hol : (lotsOf ls m.inst).length ≤ 1000 := Nat.le_trans (lotsOf_len ls m.inst) hln
      have hT0 : 0 ≤ sumQ (lotsOf ls m.inst) := sum_nonneg_map (fun y hy => (hOF y hy).2)
      have hTn : (sumQ (lotsOf ls m.inst)).natAbs < 10 ^ 17 := sum_lt (fun y hy => val_lt' (hoq y hy)) hol
      have hTl : (txtL (sumQ (lotsOf ls m.inst))).length ≤ 18 := txtL_length (L := 17) hTn
      have HPT := Lib.hid (fun W hW => parts_ok (txtL (sumQ (lotsOf ls m.inst))) m.ratio W hW (by rw [val_txtL]) (by omega) oro (HFR.out.1.more (by omega)) (by rw [val_txtL]; exact hT0) or0)
      rw [val_txtL] at HPT
      have hqb : RB 100 (((sumQ (lotsOf ls m.inst) : Int) : Rat) * m.ratio.rat) := (rb_mulq (rb_int hTn (by omega)) ((sz_rb HFR.out.1 (by omega)).more (show 10 ≤ 17 by omega))).more (by omega)
      have hrb : RB 100 (restT ls m) := rb_part hqb
      have hrz : (frOf (restT ls m)).Sz 20000 := (frOf_sz hrb).more (by omega)
      have hmz : (frOf (restT ls m * m.price.rat)).Sz 20000 := (frOf_sz (rb_mulq hrb ((sz_rb HFR.out.2 (by omega)).more (show 10 ≤ 100 by omega)))).more (by omega)
      have HMU := Lib.hid (fun W hW => fMul_any (frOf (restT ls m)) m.price W hW hrz (HFR.out.2.more (by omega)))
      rw [rat_frOf] at HMU
      have HRD := Lib.hid (fun W (hW : Env W) => round_any (frOf (restT ls m * m.price.rat)) hmz W hW)
      rw [rat_frOf] at HRD
      have HSO := Lib.hid (fun W A c (hW : Env W) (ho : Lots W W.heap.size A (lotsOf ls m.inst).length (lotsOf ls m.inst)) => lwSumQ_any A (lotsOf ls m.inst).length c (lotsOf ls m.inst) W hW ho (fun y hy => by have := hoq y hy; omega) (by omega))
      rw [show selS (·.q) (lotsOf ls m.inst) = sumQ (lotsOf ls m.inst) from rfl] at HSO
      have HZC := Lib.hid (show (frOf (restT ls m) = ⟨[], []⟩ ∧ (mapL ls m).1.gains.length = 0) ∨ ((frOf (restT ls m)).n == []) = false from by
        by_cases h : restT ls m = 0
        · exact .inl ⟨by rw [h]; exact frOf_zero, hcZ h⟩
        · exact .inr (frOf_nzW h))
      have HCS := Lib.hid hcS; have HCM := Lib.hid hcM; have HQ2 := Lib.hid (show ∀ g ∈ (mapL ls m).1.gains, g.proceeds.length ≤ 100 from fun g hg => by have := (q2 g hg).2; omega)
      have HQ5 := Lib.hid q5
      rw [hcL] at HCA
      dsimp only at HCA oO oM oL oG oS ⊢
      have HRE := Lib.hid (show restT ls m = ((sumQ (lotsOf ls m.inst) : Int) : Rat) * m.ratio.rat - ((flo (((sumQ (lotsOf ls m.inst) : Int) : Rat) * m.ratio.rat) : Int) : Rat) from rfl)
      unfold PartsPost at HPT
      rw [← HRE.out] at HPT
      have HTT := Lib.hid (HCS.out)
      clear HNO HNL HLEN h0 q2 q4 q5 q6 oro or0 hOF hoq hln hol hT0 hTn hTl hqb hrb hrz hmz hcL hcS hcZ hcM HRE HTT HQC
      unfold StrPost at HSO
      unfold FracPost at HMU
      unfold FrV S at HPT HMU HRD
      unfold S at HSO
      have HOF := Lib.hid (fun W hp => of_any 0 (by omega) (by omega) W hp)
      rw [show ofL 0 = [] from ofL_nat 0] at HOF
      unfold S at HOF
      generalize newOf ls (mapL ls m).1.lots = nw at *
      generalize lotsOf ls m.inst = old at *
      generalize (mapL ls m).1.lots = lots at *
      generalize (mapL ls m).1.gains = gains at *
      generalize (mapL ls m).1.steps = steps at *
      generalize frOf (restT ls m * m.price.rat) = fc at *
      generalize rnd (restT ls m * m.price.rat) = cash at *
      generalize frOf (restT ls m) = fr at *
      generalize txtL (flo (((sumQ old : Int) : Rat) * m.ratio.rat)) = tU at *
      generalize txtL (sumQ old) = tT at *
      have HK2 := Lib.hid (HK1.out.here hb2)
      have HK3 := Lib.hid (HK2.out.new w2.heap.size rfl #[.slice A1 lots.length c1, .slice Ag gains.length cg, .slice As steps.length cs, .slice none 0 0] 35)
      have hB1 := HK1.out.bl.size
      have HOO := Lib.hid ((oO.base_ hB1).alloc (.cells #[.slice A1 lots.length c1, .slice Ag gains.length cg, .slice As steps.length cs, .slice none 0 0] 35)); have HOG := Lib.hid ((oG.base_ hB1).alloc (.cells #[.slice A1 lots.length c1, .slice Ag gains.length cg, .slice As steps.length cs, .slice none 0 0] 35))
      clear oO oM oL oG oS hb2 hB1
      obtain ⟨z0, z1, z2, z3, z4, z5, z6, z7, z8, z9, z10⟩ := mp11 HK3.out (m := m) (i := 1) rfl
      go_upto_region 4 with (fail)
      generalize (w2.alloc (.cells #[.slice A1 lots.length c1, .slice Ag gains.length cg, .slice As steps.length cs, .slice none 0 0] 35)) = W3 at *
      go_wp2_with fail
      refine (HCA.out _ HK3.out.bl).mono ?_
      rintro e w4 ⟨rfl, hb4⟩
      have HK4 := Lib.hid (HK3.out.here hb4)
      have HB4 := Lib.hid hb4
      clear hb4 z0 z1 z2 z3 z4 z5 z6 z7 z8 z9 z10 HCA
      go_wp2_with fail
      refine (HOF.out _ HK4.out.po).mono ?_
      rintro e w5 ⟨rfl, hb5⟩
      have HK5 := Lib.hid (HK4.out.here hb5)
      have HB5 := Lib.hid (HB4.out.trans (hb5.mono HB4.out.size))
      clear hb5
      have e1 := HK5.out.c 0 1 rfl rfl
      have hgl := HQ5.out
      go_wp2_with fail
      go_loopw [11, 13, 52] (fun s _ j wr => ∃ k : Nat, k ≤ gains.length ∧ j = .int .i64 k ∧ s = .string ⟨(txtL (sumP (gains.take k))).toArray⟩ ∧ Hid (Below W3.heap.size W3 wr)) (fun _ _ j _ => gains.length - (intOf j).toNat)
      case atStart => exact ⟨0, Nat.zero_le _, rfl, rfl, HB5.out⟩
      case round =>
        clear e1
        obtain ⟨k, hk, rfl, rfl, HBR⟩ := hrel
        have HKR := Lib.hid (HK3.out.here HBR.out)
        by_cases hlt : k < gains.length
        · obtain ⟨b, off, y, hAe, hb, hy, d0, d1, d2, d3, d4, d5, d6, d7, d8, d9⟩ := ((HOG.out.below HBR.out).sl G10_len).gain hlt
          have HTK := Lib.hid (proceedsK hy)
          have HA := Lib.hid (fun W hp => Add_any (txtL (sumP (gains.take k))) y.proceeds W hp (by have := sumP_len HQ2.out HQ5.out k; omega) (by have := HQ2.out y (List.mem_of_getElem? hy); omega))
          rw [val_txtL, ← HTK.out] at HA
          obtain ⟨gc, gd, gi, gq, gf⟩ := HCM.out y (List.mem_of_getElem? hy)
          have HGF := Lib.hid (show y.cause = m.cause ∧ y.closed = m.day ∧ y.inst = m.other ∧ y.q = [] ∧ y.deferred = [] from ⟨gc, gd, gi, gq, gf⟩)
          subst hAe
          clear hy gc gd gi gq gf
          have HKA := Lib.hid (HKR.out.new wr.heap.size rfl #[.string ⟨y.cause.toArray⟩, .string ⟨y.lot.toArray⟩, .string ⟨y.inst.toArray⟩, .int .i64 y.acq, .int .i64 y.closed, .string ⟨y.q.toArray⟩, .string ⟨y.proceeds.toArray⟩, .string ⟨y.cost.toArray⟩, .string ⟨y.deferred.toArray⟩, .string ⟨y.replaced.toArray⟩] 54)
          have HA1 := Lib.hid (HBR.out.alloc HBR.out.size (.cells #[.string ⟨y.cause.toArray⟩, .string ⟨y.lot.toArray⟩, .string ⟨y.inst.toArray⟩, .int .i64 y.acq, .int .i64 y.closed, .string ⟨y.q.toArray⟩, .string ⟨y.proceeds.toArray⟩, .string ⟨y.cost.toArray⟩, .string ⟨y.deferred.toArray⟩, .string ⟨y.replaced.toArray⟩] 54))
          unfold StrPost S at HA
          go_upto_region 11 with (fail)
          clear d0 d1 d2 d3 d4 d5 d6 d7 d8 d9
          generalize wr.alloc (.cells #[.string ⟨y.cause.toArray⟩, .string ⟨y.lot.toArray⟩, .string ⟨y.inst.toArray⟩, .int .i64 y.acq, .int .i64 y.closed, .string ⟨y.q.toArray⟩, .string ⟨y.proceeds.toArray⟩, .string ⟨y.cost.toArray⟩, .string ⟨y.deferred.toArray⟩, .string ⟨y.replaced.toArray⟩] 54) = Wy at *
          have k6 := HKA.out.c 0 6 rfl rfl
          go_wp2_with fail
          refine (HA.out _ HKA.out.po).mono ?_
          rintro e w6 ⟨rfl, hb6⟩
          have HK6 := Lib.hid (HKA.out.here hb6)
          clear k6
          have k0 := HK6.out.c 0 0 rfl rfl; have k2 := HK6.out.c 0 2 rfl rfl; have k4 := HK6.out.c 0 4 rfl rfl; have k5 := HK6.out.c 0 5 rfl rfl; have k8 := HK6.out.c 0 8 rfl rfl
          rw [HGF.out.1] at k0
          rw [HGF.out.2.2.1] at k2
          rw [HGF.out.2.1] at k4
          rw [HGF.out.2.2.2.1] at k5
          rw [HGF.out.2.2.2.2] at k8
          have m0 := HK6.out.c 2 0 rfl rfl; have m1 := HK6.out.c 2 1 rfl rfl; have m3 := HK6.out.c 2 3 rfl rfl
          have hcc : (m.cause != m.cause) = false := by simp
          have hoo : (m.other != m.other) = false := by simp
          go_wp2_with fail
          go_roundw
          case rel => exact ⟨k + 1, by omega, by go_num, rfl, HA1.out.trans (hb6.mono HA1.out.size)⟩
          case measure => simp [intOf]; omega
        · obtain rfl : k = gains.length := by omega
          rw [List.take_of_length_le (Nat.le_refl _), HCS.out]
          generalize txtL cash = tc at *
          have HOW := Lib.hid (HOO.out.below HBR.out)
          clear HOO HOG HK4 HB4 HK5 HB5 HCM HQ2 HQ5
          have H0 := Lib.hid (Kp.start HKR.out.pw)
          have HOX := Lib.hid (show ∀ X bs, Kp wr bs X → Lots X X.heap.size Ao old.length old from fun X bs h => (HOW.out.below h.bl).sl L7_len)
          have HRT := Lib.hid (show ∀ X bs, Kp wr bs X → X.cell? ⟨w.heap.size, 4, none⟩ = some (.string ⟨m.ratio.n.toArray⟩) ∧ X.cell? ⟨w.heap.size, 5, none⟩ = some (.string ⟨m.ratio.d.toArray⟩) from fun X bs h => ⟨(HKR.out.here h.bl).c 1 4 rfl rfl, (HKR.out.here h.bl).c 1 5 rfl rfl⟩)
          have HPA := Lib.hid ((H0.out.new wr.heap.size rfl #[.string ⟨#[]⟩, .string ⟨#[]⟩] 26).drew)
          go_upto_region 15 with (fail)
          go_cut [14, 15, 16] (fun s p v wc => s = .string ⟨tU.toArray⟩ ∧ v = .int .i64 0 ∧ ∃ P10, p = .pointer (some ⟨P10, 0, none⟩) ∧ Hid (Kp wr [(P10, #[.string ⟨fr.n.toArray⟩, .string ⟨fr.d.toArray⟩], 26)] wc))
          case first =>
            obtain ⟨s00, s01⟩ := HRT.out _ _ H0.out
            have s0 := HRT.out _ _ H0.out.drew
            have s0a := HRT.out _ _ HPA.out
            go_region_held3 (fun X => X.cell? ⟨w.heap.size, 4, none⟩ = some (.string ⟨m.ratio.n.toArray⟩) ∧ X.cell? ⟨w.heap.size, 5, none⟩ = some (.string ⟨m.ratio.d.toArray⟩))
              (first
                | with_reducible exact s4
                | with_reducible exact s2a
                | with_reducible exact s2
                | with_reducible exact s1a
                | with_reducible exact s1
                | with_reducible exact s0a
                | with_reducible exact s0
                | go_keep)
              (first
                | (go_at_call 18; first
                    | (refine (HSO.out _ _ _ H0.out.drew.pw (HOX.out _ _ H0.out.drew)).mono ?_; rintro e y1 ⟨rfl, hy⟩
                       have g1 := H0.out.drew.here hy
                       have s1 := HRT.out _ _ g1
                       have g1a := g1.new y1.heap.size rfl #[.string ⟨#[]⟩, .string ⟨#[]⟩] 26
                       have s1a := HRT.out _ _ g1a)
                    | (refine (HSO.out _ _ _ HPA.out.pw (HOX.out _ _ HPA.out)).mono ?_; rintro e y1 ⟨rfl, hy⟩
                       have g1 := HPA.out.here hy
                       have s1 := HRT.out _ _ g1))
                | (go_at_call 14; first
                    | (refine (HPT.out _ g1.pw).mono ?_; rintro e y2 ⟨rfl, hy⟩
                       have g2 := g1.here hy)
                    | (refine (HPT.out _ g1a.pw).mono ?_; rintro e y2 ⟨rfl, hy⟩
                       have g2 := g1a.here hy)
                   first
                    | (have s2 := HRT.out _ [] g2
                       have g2a := g2.new y2.heap.size rfl #[.string ⟨#[]⟩, .string ⟨#[]⟩] 26
                       have s2a := HRT.out _ _ g2a
                       have g4 := (g2a.set 0 0 rfl (.string ⟨fr.n.toArray⟩)).set 0 1 rfl (.string ⟨fr.d.toArray⟩)
                       have s4 := HRT.out _ _ g4)
                    | (have s2 := HRT.out _ _ g2
                       have n0 := g2.c 0 0 rfl rfl; have n1 := g2.c 0 1 rfl rfl
                       have v0 := g2.f 0 0 rfl; have v1 := g2.f 0 1 rfl
                       have g4 := (g2.set 0 0 rfl (.string ⟨fr.n.toArray⟩)).set 0 1 rfl (.string ⟨fr.d.toArray⟩)
                       have s4 := HRT.out _ _ g4)))
            all_goals
              go_wp2_with fail
              go_meet
              first
                | exact ⟨rfl, rfl, _, rfl, g4⟩
                | exact ⟨rfl, rfl, _, rfl, g2.new _ rfl _ _⟩
          case rest =>
          obtain ⟨rfl, rfl, P10, rfl, H1⟩ := hcut
          clear H0 HPA HRT HPT HSO HOX
          have HKC := Lib.hid (HKR.out.here H1.out.bl)
          have p0 := H1.out.c 0 0 rfl rfl; have p1 := H1.out.c 0 1 rfl rfl
          have m8 := HKC.out.c 1 8 rfl rfl; have m9 := HKC.out.c 1 9 rfl rfl
          go_wp2_with fail
          refine (HMU.out _ H1.out.po).mono ?_
          rintro e w7 ⟨rfl, hb7⟩
          have H7 := Lib.hid (H1.out.here hb7)
          clear hb7 p0 p1 m8 m9
          try unfold FrV S
          go_wp2_with fail
          refine (HRD.out _ H7.out.pw).mono ?_
          rintro e w8 ⟨rfl, hb8⟩
          have H8 := Lib.hid (H7.out.here hb8)
          have HK8 := Lib.hid (HKR.out.here H8.out.bl)
          clear hb8
          have p0 := H8.out.c 0 0 rfl rfl; have p1 := H8.out.c 0 1 rfl rfl
          have e1 := HK8.out.c 0 1 rfl rfl
          have htt : (tc == tc) = true := by simp
          rcases HZC.out with ⟨hz, hgz⟩ | hz
          · rw [hz] at p0 p1
            rw [hgz] at e1
            go_wp2_with fail
            refine (HAW.out _ HK8.out.bl).mono ?_
            rintro e w9 ⟨rfl, hb9⟩
            go_wp2_with fail
            first | go_ret | skip
            exact ⟨rfl, (HK8.out.here hb9).bl⟩
          · go_wp2_with fail
            refine (HAW.out _ HK8.out.bl).mono ?_
            rintro e w9 ⟨rfl, hb9⟩
            go_wp2_with fail
            first | go_ret | skip
            exact ⟨rfl, (HK8.out.here hb9).bl⟩
    · rw [HNL.out, if_neg h0, HNO.out h0] at oO oM oL oG oS ⊢
      dsimp only
      rw [show Res.none.lots.length = 0 from rfl, show Res.none.gains.length = 0 from rfl, show Res.none.steps.length = 0 from rfl, show ([] : List Lot).length = 0 from rfl]
      have HK2 := Lib.hid (HK1.out.here hb2)
      have HK3 := Lib.hid (HK2.out.new w2.heap.size rfl #[.slice A1 0 c1, .slice Ag 0 cg, .slice As 0 cs, .slice none 0 0] 35)
      clear oO oM oL oG oS hb2 h0
      obtain ⟨z0, z1, z2, z3, z4, z5, z6, z7, z8, z9, z10⟩ := mp11 HK3.out (m := m) (i := 1) rfl
      go_upto_region 4 with (fail)
      generalize (w2.alloc (.cells #[.slice A1 0 c1, .slice Ag 0 cg, .slice As 0 cs, .slice none 0 0] 35)) = W3 at *
      rcases cash_cases ls m with ⟨t, hc⟩ | hc
      all_goals
        rw [hc] at HCA
        dsimp only at HCA
        clear hc
        go_wp2_with fail
        refine (HCA.out _ HK3.out.bl).mono ?_
        rintro e w4 ⟨rfl, hb4⟩
        have HK4 := Lib.hid (HK3.out.here hb4)
        clear hb4 z0 z1 z2 z3 z4 z5 z6 z7 z8 z9 z10
        go_wp2_with fail
        refine (HAW.out _ HK4.out.bl).mono ?_
        rintro e w5 ⟨rfl, hb5⟩
        go_wp2_with fail
        first | go_ret | skip
        exact ⟨rfl, (HK4.out.here hb5).bl⟩
end Go.Proofs.YtbnfgbcgpbdpcaaGreatDoor
