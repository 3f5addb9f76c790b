/- Merged texts: Lw3, Lc, Qp, Gv, Lsz. -/
import Derived.Test.YtbnfgbcgpbdpcaaGreatDoorQGW20
import Derived.Test.YtbnfgbcgpbdpcaaGreatDoorQGW19
import Derived.Test.YtbnfgbcgpbdpcaaGreatDoorQGW14
import Derived.Test.YtbnfgbcgpbdpcaaGreatDoorAL2qGW
import Derived.Test.YtbnfgbcgpbdpcaaGreatDoorQGW15
import Derived.Test.YtbnfgbcgpbdpcaaGreatDoorQGW17
/- Contract of the statements' great. -/
namespace Go.Proofs.YtbnfgbcgpbdpcaaGreatDoor
open Go.RowKit Go.Shelf

set_option maxRecDepth 20000 in
set_option maxHeartbeats 1000000 in
theorem lwGreat_any (A : Option Addr) (n c : Nat) (xs : List Lot) (m : Mp) (w : World) (hs : Lots w w.heap.size A n xs) (hn : n ≤ 9223372036854775807) (hm : m.Max) :
    Calls Tryz.prog 7 #[.slice A n c, MpV m] w fun e w' => e = .returned (.bool (grtL xs || longM m)) ∧ Below w.heap.size w w' := by
  have H := Lib.hid ((Below.refl w.heap.size w).alloc (Nat.le_refl _) (.cells #[.string ⟨m.cause.toArray⟩, .int .i64 m.day, .string ⟨m.inst.toArray⟩, .string ⟨m.other.toArray⟩, .string ⟨m.ratio.n.toArray⟩, .string ⟨m.ratio.d.toArray⟩, .string ⟨m.share.n.toArray⟩, .string ⟨m.share.d.toArray⟩, .string ⟨m.price.n.toArray⟩, .string ⟨m.price.d.toArray⟩, .bool m.keep] 28))
  have HB := Lib.hid (show BlkB (w.alloc (.cells #[.string ⟨m.cause.toArray⟩, .int .i64 m.day, .string ⟨m.inst.toArray⟩, .string ⟨m.other.toArray⟩, .string ⟨m.ratio.n.toArray⟩, .string ⟨m.ratio.d.toArray⟩, .string ⟨m.share.n.toArray⟩, .string ⟨m.share.d.toArray⟩, .string ⟨m.price.n.toArray⟩, .string ⟨m.price.d.toArray⟩, .bool m.keep] 28)) w.heap.size #[.string ⟨m.cause.toArray⟩, .int .i64 m.day, .string ⟨m.inst.toArray⟩, .string ⟨m.other.toArray⟩, .string ⟨m.ratio.n.toArray⟩, .string ⟨m.ratio.d.toArray⟩, .string ⟨m.share.n.toArray⟩, .string ⟨m.share.d.toArray⟩, .string ⟨m.price.n.toArray⟩, .string ⟨m.price.d.toArray⟩, .bool m.keep] 28 from heap_alloc_new w _)
  have HGR := Lib.hid (rGreat_any A n c xs (w.alloc (.cells #[.string ⟨m.cause.toArray⟩, .int .i64 m.day, .string ⟨m.inst.toArray⟩, .string ⟨m.other.toArray⟩, .string ⟨m.ratio.n.toArray⟩, .string ⟨m.ratio.d.toArray⟩, .string ⟨m.share.n.toArray⟩, .string ⟨m.share.d.toArray⟩, .string ⟨m.price.n.toArray⟩, .string ⟨m.price.d.toArray⟩, .bool m.keep] 28)) (hs.here H.out) hn)
  have HLO := Lib.hid (fun W => lwLong_any m W hm)
  generalize grtL xs = gx at *
  generalize longM m = lm at *
  clear hs hn hm
  unfold MpV mpA at *
  unfold S at *
  cases gx with
  | true =>
    go_enter Tryz.func7, Tryz.ntmps7
    go_wp2_with fail
    generalize w.alloc (.cells #[.string ⟨m.cause.toArray⟩, .int .i64 m.day, .string ⟨m.inst.toArray⟩, .string ⟨m.other.toArray⟩, .string ⟨m.ratio.n.toArray⟩, .string ⟨m.ratio.d.toArray⟩, .string ⟨m.share.n.toArray⟩, .string ⟨m.share.d.toArray⟩, .string ⟨m.price.n.toArray⟩, .string ⟨m.price.d.toArray⟩, .bool m.keep] 28) = W at *
    refine HGR.out.mono ?_
    rintro e w1 ⟨rfl, hb⟩
    go_wp2_with fail
    go_ret
    exact ⟨ret_bool (Bool.true_or lm).symm, H.out.trans (hb.mono H.out.size)⟩
  | false =>
    go_enter Tryz.func7, Tryz.ntmps7
    go_wp2_with fail
    generalize w.alloc (.cells #[.string ⟨m.cause.toArray⟩, .int .i64 m.day, .string ⟨m.inst.toArray⟩, .string ⟨m.other.toArray⟩, .string ⟨m.ratio.n.toArray⟩, .string ⟨m.ratio.d.toArray⟩, .string ⟨m.share.n.toArray⟩, .string ⟨m.share.d.toArray⟩, .string ⟨m.price.n.toArray⟩, .string ⟨m.price.d.toArray⟩, .bool m.keep] 28) = W at *
    refine HGR.out.mono ?_
    rintro e w1 ⟨rfl, hb⟩
    have HB1 := Lib.hid (HB.out.here hb)
    have c0 := HB1.out.cell 0 rfl; have c1 := HB1.out.cell 1 rfl; have c2 := HB1.out.cell 2 rfl; have c3 := HB1.out.cell 3 rfl; have c4 := HB1.out.cell 4 rfl; have c5 := HB1.out.cell 5 rfl; have c6 := HB1.out.cell 6 rfl; have c7 := HB1.out.cell 7 rfl; have c8 := HB1.out.cell 8 rfl; have c9 := HB1.out.cell 9 rfl; have c10 := HB1.out.cell 10 rfl
    go_wp2_with fail
    refine (HLO.out _).mono ?_
    rintro e w2 ⟨rfl, hb2⟩
    go_wp2_with fail
    go_ret
    exact ⟨ret_bool (Bool.false_or lm).symm, H.out.trans ((hb.trans (hb2.mono hb.size)).mono H.out.size)⟩
end Go.Proofs.YtbnfgbcgpbdpcaaGreatDoor
/- The law LotmapCosts in plain form. -/
namespace Go.Proofs.YtbnfgbcgpbdpcaaGreatDoor
open Go.RowKit Go.Shelf

/-- The sum of a number of lots. -/
def sumC (l : List Lot) : Int := (l.map (fun z => val z.c)).sum
def sumQ (l : List Lot) : Int := (l.map (fun z => val z.q)).sum
def sumG (l : List Gain) : Int := (l.map (fun g => val g.cost)).sum
theorem planL_nil (m : Mp) : (planL [] m).m.sum = 0 ∧ (planL [] m).f.sum = 0 := by
  obtain ⟨l1, l2, l3, l4⟩ := planL_lens [] m
  rw [List.length_nil] at l2 l3
  rw [List.eq_nil_of_length_eq_zero l2, List.eq_nil_of_length_eq_zero l3]
  exact ⟨rfl, rfl⟩
theorem costs_plain {ls : List Lot} {m : Mp} (h : (mapL ls m).2 = 0) :
    allC ls = 0 ∧ mpC m = 0 ∧ allC (mapL ls m).1.lots = 0 ∧ sumC ls = sumC (mapL ls m).1.lots + sumG (mapL ls m).1.gains ∧
    (planL (lotsOf ls m.inst) m).m.sum - (planL (lotsOf ls m.inst) m).f.sum = sumC (newOf ls (mapL ls m).1.lots) ∧ (planL (lotsOf ls m.inst) m).f.sum = sumG (mapL ls m).1.gains := by
  rcases mapL_case ls m with ⟨e, he, h'⟩ | ⟨hl, hm, ho, h'⟩ | ⟨A, B, hM, h'⟩
  · rw [h'] at h; exact absurd h he
  · rw [h', ho]
    obtain ⟨p1, p2⟩ := planL_nil m
    refine ⟨(allC_ok ls).2 hl, (mpC_ok m).2 hm, (allC_ok ls).2 hl, ?_, ?_, ?_⟩
    · show sumC ls = sumC ls + 0; omega
    · rw [p1, p2, new_self]; rfl
    · rw [p2]; rfl
  · rw [h']
    obtain ⟨s1, s2, s3, s4, s5⟩ := planL_sums (lotsOf_ok hM.ok m.inst) hM.mp hM.old
    obtain ⟨g1, _⟩ := hM.gains
    have hc := hM.costs
    refine ⟨(allC_ok ls).2 hM.ok, (mpC_ok m).2 hM.mp, (allC_ok _).2 (hM.ok' hM.len), ?_, ?_, ?_⟩
    · show sumC ls = sumC (A ++ mdO ls m ++ B) + sumG (gainL m (plO ls m) (oldO ls m))
      unfold sumC sumG
      rw [g1]
      exact hc.symm
    · show _ = sumC (newOf ls (A ++ mdO ls m ++ B))
      rw [hM.new, s2, s3]
      exact (madeL_c (lotsOf_ok hM.ok m.inst) hM.mp hM.old).symm
    · rw [s3]
      exact g1.symm
theorem mapL_no {ls : List Lot} {m : Mp} (h : (mapL ls m).2 ≠ 0) : (mapL ls m).1 = Res.none := by
  rcases mapL_case ls m with ⟨e, he, h'⟩ | ⟨hl, hm, ho, h'⟩ | ⟨A, B, hM, h'⟩
  · rw [h']
  · rw [h'] at h; exact absurd rfl h
  · rw [h'] at h; exact absurd rfl h
end Go.Proofs.YtbnfgbcgpbdpcaaGreatDoor
/- The law LotmapQuantities in plain form. -/
namespace Go.Proofs.YtbnfgbcgpbdpcaaGreatDoor
open Go.RowKit Go.Shelf

/-- What the steps from a lot made. -/
def madeOf (ls : List Stp) (id : List UInt8) : Int := stpSum ls (fun s => decide (s.src = id)) (·.made)
theorem lotsOf_ids {ls : List Lot} (h : LotsOk ls) (i : List UInt8) : ((lotsOf ls i).map (·.id)).Nodup := by
  unfold lotsOf
  exact (List.filter_sublist.map _).nodup h.ids
theorem quant_plain {ls : List Lot} {m : Mp} (h : (mapL ls m).2 = 0) (ho : lotsOf ls m.inst ≠ []) :
    LotsOk ls ∧ m.Ok ∧ sumQ (newOf ls (mapL ls m).1.lots) = (planL (lotsOf ls m.inst) m).parts ∧
    (lotsOf ls m.inst).map (fun y => madeOf (mapL ls m).1.steps y.id) = (planL (lotsOf ls m.inst) m).n ∧ (planL (lotsOf ls m.inst) m).n = posL (planL (lotsOf ls m.inst) m).parts ((lotsOf ls m.inst).map fun y => val y.q) := by
  rcases mapL_case ls m with ⟨e, he, h'⟩ | ⟨hl, hm, ho', h'⟩ | ⟨A, B, hM, h'⟩
  · rw [h'] at h; exact absurd h he
  · exact absurd ho' ho
  · rw [h']
    have hok := lotsOf_ok hM.ok m.inst
    obtain ⟨l1, l2, l3, l4⟩ := planL_lens (lotsOf ls m.inst) m
    obtain ⟨s1, s2, s3, s4, s5⟩ := planL_sums hok hM.mp ho
    refine ⟨hM.ok, hM.mp, ?_, ?_, ?_⟩
    · show sumQ (newOf ls (A ++ mdO ls m ++ B)) = _
      rw [hM.new]
      exact madeL_q hok hM.mp ho
    · refine List.ext_getElem (by simp [l1]) fun k h1 h2 => ?_
      have hk : k < (lotsOf ls m.inst).length := by rw [← l1]; exact h2
      rw [List.getElem_map]
      show stpSum (stpTo m (planL (lotsOf ls m.inst) m) (lotsOf ls m.inst) (lotsOf ls m.inst).length) _ _ = _
      rw [stpTo_from m _ _ (lotsOf_ids hM.ok m.inst) (·.made) k hk _ (Nat.le_refl _), if_pos hk, stp2_made]
      have hg : (planL (lotsOf ls m.inst) m).n.getD k 0 = (planL (lotsOf ls m.inst) m).n[k] := by rw [List.getD_eq_getElem?_getD, List.getElem?_eq_getElem h2]; rfl
      split
      · rename_i h0
        rw [h0] at s1
        have h3 := sum_zero_all (divS_nonneg (planL_ok hok hM.mp).parts0 (old_nonneg hok).1) s1 _ (List.getElem_mem h2)
        exact h3.symm
      · exact hg
    · show divS _ _ = _
      unfold divS
      rw [if_neg (by omega)]
      rfl
/-- allocate.Check says yes to a fair division. -/
theorem fair_at {t : Int} {ws : List Int} (hS : 0 < ws.sum) {i : Nat} {x w : Int} (hi : (posL t ws)[i]? = some x) (hw : ws[i]? = some w) :
    cmpR (Rat.divInt (t * w) ws.sum - ((x : Int) : Rat)) 1 < 0 ∧ cmpR (-(Rat.divInt (t * w) ws.sum - ((x : Int) : Rat))) 1 < 0 := by
  obtain ⟨h1, h2⟩ := posL_fair hS hi hw
  unfold cmpR
  rw [if_pos h1, if_pos h2]
  exact ⟨by decide, by decide⟩
theorem part_range (q : Rat) : ¬ cmpR (q - ((flo q : Int) : Rat)) 0 < 0 ∧ ¬ 0 ≤ cmpR (q - ((flo q : Int) : Rat)) 1 := by
  have h0 := part_nonneg q
  have h1 : q - ((flo q : Int) : Rat) < 1 := by
    rw [sub_flo]
    obtain ⟨b1, b2⟩ := flr_bounds q
    have hd : (0 : Int) < q.den := by have := q.den_pos; omega
    have h1r : (1 : Rat) = Rat.divInt 1 1 := rfl
    rw [h1r, lt_divInt _ _ hd (by omega)]
    omega
  unfold cmpR
  rw [if_pos h1]
  constructor
  · rw [if_neg (Rat.not_lt.2 h0)]
    split <;> decide
  · decide
end Go.Proofs.YtbnfgbcgpbdpcaaGreatDoor
/- Gains, steps and results as values; the ids of new lots in a row. -/
namespace Go.Proofs.YtbnfgbcgpbdpcaaGreatDoor
open Go.RowKit Go.Shelf

/-- A gain's cells. -/
def G10 (g : Gain) : List Value := [S g.cause, S g.lot, S g.inst, .int .i64 g.acq, .int .i64 g.closed, S g.q, S g.proceeds, S g.cost, S g.deferred, S g.replaced]
theorem G10_len (g : Gain) : (G10 g).length = 10 := rfl
theorem G10_cell (g : Gain) : ∀ u ∈ G10 g, u.oneCell' = true := by
  intro u hu
  simp only [G10, List.mem_cons, List.mem_nil_iff, or_false] at hu
  rcases hu with rfl | rfl | rfl | rfl | rfl | rfl | rfl | rfl | rfl | rfl <;> rfl
/-- A step's cells. -/
def S6 (s : Stp) : List Value := [S s.cause, S s.src, S s.dst, S s.q, S s.made, S s.cost]
theorem S6_len (s : Stp) : (S6 s).length = 6 := rfl
theorem S6_cell (s : Stp) : ∀ u ∈ S6 s, u.oneCell' = true := by
  intro u hu
  simp only [S6, List.mem_cons, List.mem_nil_iff, or_false] at hu
  rcases hu with rfl | rfl | rfl | rfl | rfl | rfl <;> rfl
abbrev Gns (w : World) (B : Nat) (A : Option Addr) (n : Nat) (xs : List Gain) : Prop := Sl G10 10 w B A n xs
abbrev Sts (w : World) (B : Nat) (A : Option Addr) (n : Nat) (xs : List Stp) : Prop := Sl S6 6 w B A n xs
theorem elemGains : ElemT Tryz.prog 31 54 10 144 := elemT_of Tryz.underlying31 (by kernel_rfl) (by decide) (by decide)
theorem elemSteps : ElemT Tryz.prog 32 44 6 96 := elemT_of Tryz.underlying32 (by kernel_rfl) (by decide) (by decide)
theorem Sl.gain {w : World} {B : Nat} {A : Option Addr} {n : Nat} {xs : List Gain} {i : Nat} (h : Gns w B A n xs) (hi : i < n) :
    ∃ b off x, A = some ⟨b, off, none⟩ ∧ b < B ∧ xs[i]? = some x ∧ w.cell? ⟨b, off + i * 10, none⟩ = some (.string ⟨x.cause.toArray⟩) ∧ w.cell? ⟨b, off + i * 10 + 1, none⟩ = some (.string ⟨x.lot.toArray⟩) ∧ w.cell? ⟨b, off + i * 10 + 2, none⟩ = some (.string ⟨x.inst.toArray⟩) ∧
      w.cell? ⟨b, off + i * 10 + 3, none⟩ = some (.int .i64 x.acq) ∧ w.cell? ⟨b, off + i * 10 + 4, none⟩ = some (.int .i64 x.closed) ∧ w.cell? ⟨b, off + i * 10 + 5, none⟩ = some (.string ⟨x.q.toArray⟩) ∧ w.cell? ⟨b, off + i * 10 + 6, none⟩ = some (.string ⟨x.proceeds.toArray⟩) ∧
      w.cell? ⟨b, off + i * 10 + 7, none⟩ = some (.string ⟨x.cost.toArray⟩) ∧ w.cell? ⟨b, off + i * 10 + 8, none⟩ = some (.string ⟨x.deferred.toArray⟩) ∧ w.cell? ⟨b, off + i * 10 + 9, none⟩ = some (.string ⟨x.replaced.toArray⟩) := by
  obtain ⟨b, off, x, hA, hb, hx, hc⟩ := h.at_ hi
  exact ⟨b, off, x, hA, hb, hx, hc 0 _ rfl, hc 1 _ rfl, hc 2 _ rfl, hc 3 _ rfl, hc 4 _ rfl, hc 5 _ rfl, hc 6 _ rfl, hc 7 _ rfl, hc 8 _ rfl, hc 9 _ rfl⟩
theorem Sl.step {w : World} {B : Nat} {A : Option Addr} {n : Nat} {xs : List Stp} {i : Nat} (h : Sts w B A n xs) (hi : i < n) :
    ∃ b off x, A = some ⟨b, off, none⟩ ∧ b < B ∧ xs[i]? = some x ∧ w.cell? ⟨b, off + i * 6, none⟩ = some (.string ⟨x.cause.toArray⟩) ∧ w.cell? ⟨b, off + i * 6 + 1, none⟩ = some (.string ⟨x.src.toArray⟩) ∧ w.cell? ⟨b, off + i * 6 + 2, none⟩ = some (.string ⟨x.dst.toArray⟩) ∧
      w.cell? ⟨b, off + i * 6 + 3, none⟩ = some (.string ⟨x.q.toArray⟩) ∧ w.cell? ⟨b, off + i * 6 + 4, none⟩ = some (.string ⟨x.made.toArray⟩) ∧ w.cell? ⟨b, off + i * 6 + 5, none⟩ = some (.string ⟨x.cost.toArray⟩) := by
  obtain ⟨b, off, x, hA, hb, hx, hc⟩ := h.at_ hi
  exact ⟨b, off, x, hA, hb, hx, hc 0 _ rfl, hc 1 _ rfl, hc 2 _ rfl, hc 3 _ rfl, hc 4 _ rfl, hc 5 _ rfl⟩

theorem gainTo_succ (m : Mp) (x : Plan) (old : List Lot) (i : Nat) : gainTo m x old (i + 1) = gainTo m x old i ++ (match old[i]? with
    | some y => if x.p.getD i 0 = 0 ∧ x.f.getD i 0 = 0 then [] else [{ cause := m.cause, lot := y.id, inst := m.other, acq := y.acq, closed := m.day, q := [], proceeds := txtL (x.p.getD i 0), cost := txtL (x.f.getD i 0), deferred := [], replaced := [] }]
    | none => []) := by
  unfold gainTo
  rw [List.range_succ, List.filterMap_append]
  congr 1
  simp only [List.filterMap_cons, List.filterMap_nil]
  cases old[i]? with
  | none => rfl
  | some y =>
    by_cases h : x.p.getD i 0 = 0 ∧ x.f.getD i 0 = 0
    · simp only [if_pos h]
    · simp only [if_neg h]
theorem gainTo_len (m : Mp) (x : Plan) (old : List Lot) (i : Nat) : (gainTo m x old i).length ≤ i := by
  unfold gainTo
  exact Nat.le_trans (List.length_filterMap_le _ _) (by rw [List.length_range]; exact Nat.le_refl _)
theorem stp2_len (m : Mp) (x : Plan) (k : Nat) (y : Lot) : (stp2 m x k y).length ≤ 2 := by
  have h : ∀ s, (stp1 s).length ≤ 1 := fun s => by unfold stp1; split <;> simp
  unfold stp2
  simp only
  split
  · exact Nat.le_trans (h _) (by omega)
  · rw [List.length_append]
    have := h { cause := m.cause, src := y.id, dst := newId m.cause (if x.n.getD k 0 = 0 then 1 else cntN x.n k + 1), q := if m.keep = true then [] else y.q, made := txtL (x.n.getD k 0), cost := txtL (x.mv k) }
    have := h { cause := m.cause, src := y.id, dst := [], q := [], made := [], cost := txtL (x.f.getD k 0) }
    omega

/-- The ids of the new lots, row by row; those of the first i rows that were empty have been turned. -/
def toR (m : Mp) (x : Plan) (N i : Nat) : List (List UInt8) := (List.range N).map fun j => if x.n.getD j 0 = 0 then (if j < i ∧ x.parts ≠ 0 then newId m.cause 1 else []) else newId m.cause (cntN x.n j + 1)
def toP (N : Nat) (l : List (Nat × Lot)) : List (List UInt8) := l.foldl (fun a z => a.set z.1 z.2.id) (List.replicate N [])
theorem toP_snoc (N : Nat) (l : List (Nat × Lot)) (z : Nat × Lot) : toP N (l ++ [z]) = (toP N l).set z.1 z.2.id := by unfold toP; rw [List.foldl_append]; rfl
theorem toP_len (N : Nat) (l : List (Nat × Lot)) : (toP N l).length = N := by
  unfold toP
  have h : ∀ (l : List (Nat × Lot)) (a : List (List UInt8)), (l.foldl (fun a z => a.set z.1 z.2.id) a).length = a.length := by
    intro l
    induction l with
    | nil => intro a; rfl
    | cons z l ih => intro a; rw [List.foldl_cons, ih, List.length_set]
  rw [h, List.length_replicate]
theorem toP_fresh (m : Mp) (x : Plan) (old : List Lot) (i : Nat) (hi : i ≤ old.length) :
    toP old.length (freshTo m x old i) = (List.range old.length).map fun j => if j < i ∧ x.n.getD j 0 ≠ 0 then newId m.cause (cntN x.n j + 1) else [] := by
  induction i with
  | zero =>
    refine List.ext_getElem (by simp [toP_len]) fun j h1 h2 => ?_
    simp [toP, freshTo]
  | succ i ih =>
    have hlt : i < old.length := by omega
    rw [freshTo_succ, List.getElem?_eq_getElem hlt]
    simp only
    by_cases h0 : x.n.getD i 0 = 0
    · rw [if_pos h0, List.append_nil, ih (by omega)]
      refine List.map_congr_left fun j _ => ?_
      by_cases hj : j < i
      · simp only [hj, show j < i + 1 by omega]
      · by_cases hji : j = i
        · subst hji; rw [if_neg (fun h => by omega), if_neg (fun h => h.2 h0)]
        · simp [hj, show ¬ j < i + 1 by omega]
    · rw [if_neg h0, toP_snoc, ih (by omega)]
      refine List.ext_getElem (by simp) fun j h1 h2 => ?_
      rw [List.getElem_set]
      simp only [List.getElem_map, List.getElem_range]
      by_cases hji : i = j
      · subst hji
        rw [if_pos rfl, if_pos ⟨by omega, h0⟩]
        rfl
      · rw [if_neg hji]
        by_cases hj : j < i
        · simp only [hj, show j < i + 1 by omega]
        · simp only [hj, show ¬ j < i + 1 by omega]
theorem toP_all (m : Mp) (x : Plan) (old : List Lot) : toP old.length (freshL m x old) = toR m x old.length 0 := by
  unfold freshL toR
  rw [toP_fresh m x old _ (Nat.le_refl _)]
  refine List.map_congr_left fun j hj => ?_
  have hj := List.mem_range.1 hj
  by_cases h0 : x.n.getD j 0 = 0 <;> simp [h0, hj]
theorem toR_get (m : Mp) (x : Plan) (N i j : Nat) (hj : j < N) : (toR m x N i)[j]? = some (if x.n.getD j 0 = 0 then (if j < i ∧ x.parts ≠ 0 then newId m.cause 1 else []) else newId m.cause (cntN x.n j + 1)) := by
  unfold toR
  rw [List.getElem?_map, List.getElem?_range hj]
  rfl
theorem toR_next (m : Mp) (x : Plan) (N i : Nat) (h : x.n.getD i 0 ≠ 0 ∨ x.parts = 0) : toR m x N (i + 1) = toR m x N i := by
  unfold toR
  refine List.map_congr_left fun j _ => ?_
  by_cases hji : j = i
  · subst hji
    rcases h with h | h
    · rw [if_neg h, if_neg h]
    · simp [h]
  · by_cases hj : j < i
    · simp only [hj, show j < i + 1 by omega]
    · simp only [hj, show ¬ j < i + 1 by omega]
theorem toR_set (m : Mp) (x : Plan) (N i : Nat) (hi : i < N) (h0 : x.n.getD i 0 = 0) (hp : x.parts ≠ 0) : (toR m x N i).set i (newId m.cause 1) = toR m x N (i + 1) := by
  unfold toR
  refine List.ext_getElem (by simp) fun j h1 h2 => ?_
  rw [List.getElem_set]
  simp only [List.getElem_map, List.getElem_range]
  by_cases hji : i = j
  · subst hji
    rw [if_pos rfl, if_pos h0, if_pos ⟨by omega, hp⟩]
  · rw [if_neg hji]
    by_cases hj : j < i
    · simp only [hj, show j < i + 1 by omega]
    · simp only [hj, show ¬ j < i + 1 by omega]
/-- A row of texts. -/
def strA (l : List (List UInt8)) : Array Value := (l.map fun s => Value.string ⟨s.toArray⟩).toArray
theorem strA_get (l : List (List UInt8)) (j : Nat) (s : List UInt8) (h : l[j]? = some s) : (strA l)[j]? = some (.string ⟨s.toArray⟩) := by unfold strA; simp [h]
theorem strA_set (l : List (List UInt8)) (j : Nat) (s : List UInt8) : (strA l).setIfInBounds j (.string ⟨s.toArray⟩) = strA (l.set j s) := by unfold strA; simp [List.map_set]
theorem strA_zero (N : Nat) : partA [] N 0 = strA (toP N []) := by
  apply Array.ext_getElem?
  intro j
  unfold partA strA toP
  rcases Nat.lt_or_ge j N with h | h
  · simp [h]
  · simp [h]
end Go.Proofs.YtbnfgbcgpbdpcaaGreatDoor
/- Sizes of what the statements on lotmap look at. -/
namespace Go.Proofs.YtbnfgbcgpbdpcaaGreatDoor
open Go.RowKit Go.Shelf

/-- The days of lots are machine integers. -/
def Lot.I (y : Lot) : Prop := (-9223372036854775808 ≤ y.acq ∧ y.acq ≤ 9223372036854775807) ∧ -9223372036854775808 ≤ y.opn ∧ y.opn ≤ 9223372036854775807
theorem grtL_no {xs : List Lot} (h : grtL xs = false) (hi : ∀ y ∈ xs, y.I) : xs.length ≤ 1002 ∧ ∀ y ∈ xs, y.Sz 40 ∧ y.q.length ≤ 13 ∧ y.c.length ≤ 13 := by
  unfold grtL at h
  simp only [Bool.or_eq_false_iff, decide_eq_false_iff_not] at h
  refine ⟨by omega, fun y hy => ?_⟩
  have h1 : grt1 y = false := by
    have := h.2
    rw [List.any_eq_false] at this
    simpa using this y hy
  unfold grt1 at h1
  simp only [Bool.or_eq_false_iff, decide_eq_false_iff_not] at h1
  obtain ⟨⟨a1, a2⟩, b1, b2⟩ := hi y hy
  obtain ⟨⟨⟨⟨c1, c2⟩, c3⟩, c4⟩, c5⟩ := h1
  exact ⟨⟨by omega, by omega, by omega, by omega, by omega, a1, a2, b1, b2⟩, by omega, by omega⟩
theorem Lot.Sz.more {L K : Nat} {y : Lot} (h : y.Sz L) (hK : L ≤ K) : y.Sz K := ⟨Nat.le_trans h.id hK, Nat.le_trans h.inst hK, Nat.le_trans h.q hK, Nat.le_trans h.c hK, Nat.le_trans h.u hK, h.a1, h.a2, h.o1, h.o2⟩
theorem keptL_c {m : Mp} {ms : List Int} {K : Nat} (hm : ∀ i, (ms.getD i 0).natAbs < 10 ^ K) (k : Nat) (l : List Lot) (h : ∀ y ∈ l, y.q.length ≤ K ∧ y.c.length ≤ K) : ∀ z ∈ keptL m ms k l, z.q.length ≤ K + 2 ∧ z.c.length ≤ K + 2 := by
  induction l generalizing k with
  | nil => intro z hz; simp [keptL] at hz
  | cons a l ih =>
    intro z hz
    have ha := h a (by simp)
    have ht := fun k => ih k (fun y hy => h y (by simp [hy]))
    unfold keptL at hz
    split at hz
    · split at hz
      · rcases List.mem_cons.1 hz with rfl | hz
        · have hc := txtL_length (sub_lt_pow (val_lt' ha.2) (hm k))
          exact ⟨by show a.q.length ≤ _; omega, by show (txtL _).length ≤ _; omega⟩
        · exact ht _ z hz
      · exact ht _ z hz
    · rcases List.mem_cons.1 hz with rfl | hz
      · omega
      · exact ht _ z hz
/-- How long the numbers of a result are. -/
theorem mapL_len {ls : List Lot} {m : Mp} {L : Nat} (hL1 : 1 ≤ L) (hL : L ≤ 200) (hq : ∀ y ∈ ls, y.q.length ≤ L ∧ y.c.length ≤ L) (hs : ∀ y ∈ ls, y.Sz 50000) (hr : m.ratio.Sz L) (hpr : m.price.Sz L) :
    (∀ y ∈ (mapL ls m).1.lots, y.q.length ≤ 4 * L + 42 ∧ y.c.length ≤ 4 * L + 42 ∧ y.Sz 50000) ∧ (∀ g ∈ (mapL ls m).1.gains, g.cost.length ≤ 4 * L + 42 ∧ g.proceeds.length ≤ 4 * L + 42) ∧ (∀ s ∈ (mapL ls m).1.steps, s.made.length ≤ 4 * L + 42) ∧
    (mapL ls m).1.lots.length ≤ 1000 ∧ (mapL ls m).1.gains.length ≤ 1000 ∧ (mapL ls m).1.steps.length ≤ 2000 := by
  rcases mapL_case ls m with ⟨e, he, h'⟩ | ⟨hl, hm, ho, h'⟩ | ⟨A, B, hM, h'⟩
  · rw [h']
    exact ⟨fun y hy => (by cases hy), fun y hy => (by cases hy), fun y hy => (by cases hy), Nat.zero_le _, Nat.zero_le _, Nat.zero_le _⟩
  · rw [h']
    refine ⟨fun y hy => ?_, fun y hy => (by cases hy), fun y hy => (by cases hy), hl.len, Nat.zero_le _, Nat.zero_le _⟩
    have := hq y hy
    exact ⟨by omega, by omega, hs y hy⟩
  · rw [h']
    have hok := lotsOf_ok hM.ok m.inst
    have hlo : (lotsOf ls m.inst).length ≤ 1000 := Nat.le_trans (lotsOf_len ls m.inst) hM.ok.len
    have hK := planL_k hok hM.mp hlo hL1 (fun y hy => (hq y (List.mem_filter.1 hy).1).1) (fun y hy => (hq y (List.mem_filter.1 hy).1).2) hr hpr
    have hcz := name_sz hM.mp.cause; have hoz := name_sz hM.mp.other
    refine ⟨fun y hy => ?_, fun g hg => ?_, fun s hs' => ?_, hM.len, ?_, ?_⟩
    · have hy : y ∈ A ++ madeL m (planL (lotsOf ls m.inst) m) (lotsOf ls m.inst) ++ B := hy
      have hk : y ∈ A ++ B → y.q.length ≤ 4 * L + 42 ∧ y.c.length ≤ 4 * L + 42 ∧ y.Sz 50000 := by
        intro h
        rw [← hM.cut] at h
        have h1 := keptL_c hK.m 0 ls (fun y hy => ⟨by have := (hq y hy).1; omega, by have := (hq y hy).2; omega⟩) y h
        exact ⟨h1.1, h1.2, keptL_sz hK.m (by omega) 0 ls (fun y hy => ⟨hs y hy, by have := (hq y hy).2; omega⟩) y h⟩
      rcases List.mem_append.1 hy with hy | hy
      · rcases List.mem_append.1 hy with hy | hy
        · exact hk (List.mem_append.2 (.inl hy))
        · obtain ⟨i, z, hz, hn, rfl⟩ := mem_madeL hy
          have hlt := (List.getElem?_eq_some_iff.1 hz).1
          have hq' := txtL_length (hK.n i)
          have hcost : (txtL ((planL (lotsOf ls m.inst) m).mv i + if cntN (planL (lotsOf ls m.inst) m).n i = 0 then (planL (lotsOf ls m.inst) m).rest (lotsOf ls m.inst).length else 0)).length ≤ 4 * L + 40 + 2 := by
            refine txtL_length (L := 4 * L + 40 + 1) ?_
            have h1 := hK.mv i; have h2 := hK.rest (lotsOf ls m.inst).length
            rw [Nat.pow_succ]
            have h3 : 0 < 10 ^ (4 * L + 40) := Nat.pow_pos (by omega)
            generalize 10 ^ (4 * L + 40) = P at *
            split <;> omega
          exact ⟨by show (txtL _).length ≤ _; omega, by show (txtL _).length ≤ _; omega, newL_sz hK hcz hoz (hok z (List.mem_of_getElem? hz)) (by omega) (by omega)⟩
      · exact hk (List.mem_append.2 (.inr hy))
    · have hg : g ∈ gainL m (planL (lotsOf ls m.inst) m) (lotsOf ls m.inst) := hg
      unfold gainL at hg
      split at hg
      · cases hg
      · unfold gainTo at hg
        obtain ⟨k, _, hk⟩ := List.mem_filterMap.1 hg
        have h1 := txtL_length (hK.f k); have h2 := txtL_length (hK.p k)
        cases ho : (lotsOf ls m.inst)[k]? with
        | none => rw [ho] at hk; cases hk
        | some y =>
          rw [ho] at hk
          simp only at hk
          split at hk
          · cases hk
          · injection hk with hk
            rw [← hk]
            exact ⟨by show (txtL _).length ≤ _; omega, by show (txtL _).length ≤ _; omega⟩
    · have hs' : s ∈ stpL m (planL (lotsOf ls m.inst) m) (lotsOf ls m.inst) := hs'
      unfold stpL stpTo at hs'
      obtain ⟨k, _, hk⟩ := List.mem_flatMap.1 hs'
      have h1 := txtL_length (hK.n k)
      cases ho : (lotsOf ls m.inst)[k]? with
      | none => rw [ho] at hk; cases hk
      | some y =>
        rw [ho] at hk
        simp only at hk
        unfold stp2 at hk
        simp only at hk
        split at hk
        · rw [stp1_mem hk]; show ([] : List UInt8).length ≤ _; simp
        · rcases List.mem_append.1 hk with hk | hk
          · rw [stp1_mem hk]; show (txtL _).length ≤ _; omega
          · rw [stp1_mem hk]; show ([] : List UInt8).length ≤ _; simp
    · show (gainL m (planL (lotsOf ls m.inst) m) (lotsOf ls m.inst)).length ≤ 1000
      unfold gainL
      split
      · simp
      · exact Nat.le_trans (gainTo_len m _ _ _) hlo
    · show (stpL m (planL (lotsOf ls m.inst) m) (lotsOf ls m.inst)).length ≤ 2000
      unfold stpL stpTo
      have h : ∀ (l : List Nat), (l.flatMap fun k => match (lotsOf ls m.inst)[k]? with | some y => stp2 m (planL (lotsOf ls m.inst) m) k y | none => []).length ≤ 2 * l.length := by
        intro l
        induction l with
        | nil => simp
        | cons a l ih =>
          rw [List.flatMap_cons, List.length_append, List.length_cons]
          have : (match (lotsOf ls m.inst)[a]? with | some y => stp2 m (planL (lotsOf ls m.inst) m) a y | none => []).length ≤ 2 := by
            cases (lotsOf ls m.inst)[a]? with
            | none => simp
            | some z => exact stp2_len m _ a z
          omega
      have := h (List.range (lotsOf ls m.inst).length)
      rw [List.length_range] at this
      exact Nat.le_trans this (by omega)
end Go.Proofs.YtbnfgbcgpbdpcaaGreatDoor
