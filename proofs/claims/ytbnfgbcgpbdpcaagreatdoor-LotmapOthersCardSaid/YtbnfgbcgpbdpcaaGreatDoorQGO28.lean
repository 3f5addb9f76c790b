/- Merged texts: De, Wo, Ot, LO. -/
import Derived.Test.YtbnfgbcgpbdpcaaGreatDoorQGO27
import Derived.Test.YtbnfgbcgpbdpcaaGreatDoorQGO14
import Derived.Test.YtbnfgbcgpbdpcaaGreatDoorQGO26
import Derived.Test.YtbnfgbcgpbdpcaaGreatDoorQGO21
import Derived.Deep.RegionHeld3
import Derived.Deep.DrawnRows
import Derived.Deep.DeepCutAuto
/- slices.DeleteFunc over lots: the walk. -/
namespace Go.Proofs.YtbnfgbcgpbdpcaaGreatDoor
open Go.RowKit Go.Shelf
attribute [local go_sem ↓] Go.wp_at_zero Go.wp_at_succ

theorem idxG_cases {α : Type} (p : α → Bool) (xs : List α) : (idxG p xs = -1 ∧ xs.any p = false) ∨ ∃ (i : Nat) (x : α), idxG p xs = (i : Int) ∧ xs[i]? = some x ∧ p x = true ∧ (xs.take i).any p = false := by
  cases h : xs.any p with
  | false => exact .inl ⟨idxG_miss h, rfl⟩
  | true =>
    refine .inr ?_
    cases hf : xs.findIdx? p with
    | none =>
      rw [List.findIdx?_eq_none_iff] at hf
      rw [List.any_eq_true] at h
      obtain ⟨x, hx, hp⟩ := h
      rw [hf x hx] at hp; cases hp
    | some i =>
      obtain ⟨hi, hp, hlt⟩ := List.findIdx?_eq_some_iff_getElem.1 hf
      refine ⟨i, xs[i], by unfold idxG; rw [hf], List.getElem?_eq_getElem hi, hp, ?_⟩
      rw [List.any_eq_false]
      intro y hy
      obtain ⟨l, hl, rfl⟩ := List.mem_take_iff_getElem.1 hy
      exact hlt l (by omega)
theorem filt_none {α : Type} {p : α → Bool} {xs : List α} (h : xs.any p = false) : xs.filter (fun x => !p x) = xs := by
  rw [List.filter_eq_self]
  intro x hx
  rw [List.any_eq_false] at h
  simpa using h x hx
theorem filt_step {α : Type} {p : α → Bool} {xs : List α} {j : Nat} {x : α} (h : xs[j]? = some x) : (xs.take (j + 1)).filter (fun x => !p x) = (xs.take j).filter (fun x => !p x) ++ if p x = true then [] else [x] := by
  obtain ⟨hj, rfl⟩ := List.getElem?_eq_some_iff.1 h
  rw [List.take_succ_eq_append_getElem hj, List.filter_append]
  congr 1
  by_cases hp : p xs[j] = true
  · rw [if_pos hp, List.filter_cons_of_neg (by simp [hp])]; rfl
  · rw [if_neg hp, List.filter_cons_of_pos (by simpa using hp)]; rfl
/-- How a row lies while elements are taken out of it. -/
structure DelS (p : Lot → Bool) (xs ys : List Lot) (i j : Nat) : Prop where
  len : ys.length = xs.length
  lt : i < j
  le : j ≤ xs.length
  kept : ys.take i = (xs.take j).filter (fun x => !p x)
  rest : ys.drop j = xs.drop j
theorem DelS.at_ {p : Lot → Bool} {xs ys : List Lot} {i j : Nat} (h : DelS p xs ys i j) : ys[j]? = xs[j]? := by
  have h1 : (ys.drop j)[0]? = (xs.drop j)[0]? := by rw [h.rest]
  rwa [List.getElem?_drop, List.getElem?_drop, Nat.add_zero] at h1
theorem DelS.start {p : Lot → Bool} {xs : List Lot} {i : Nat} {x : Lot} (hx : xs[i]? = some x) (hp : p x = true) (h : (xs.take i).any p = false) : DelS p xs xs i (i + 1) :=
  ⟨rfl, Nat.lt_succ_self _, (List.getElem?_eq_some_iff.1 hx).1, by rw [filt_step hx, if_pos hp, List.append_nil, filt_none h], rfl⟩
theorem DelS.skip {p : Lot → Bool} {xs ys : List Lot} {i j : Nat} {x : Lot} (h : DelS p xs ys i j) (hx : xs[j]? = some x) (hp : p x = true) : DelS p xs ys i (j + 1) :=
  ⟨h.len, Nat.lt_succ_of_lt h.lt, (List.getElem?_eq_some_iff.1 hx).1, by rw [filt_step hx, if_pos hp, List.append_nil, h.kept], by
    rw [← List.drop_drop, ← List.drop_drop, h.rest]⟩
theorem DelS.keep {p : Lot → Bool} {xs ys : List Lot} {i j : Nat} {x : Lot} (h : DelS p xs ys i j) (hx : xs[j]? = some x) (hp : p x = false) : DelS p xs (ys.set i x) (i + 1) (j + 1) := by
  have hj := (List.getElem?_eq_some_iff.1 hx).1
  have hi : i < ys.length := by have := h.lt; have := h.le; have := h.len; omega
  refine ⟨by rw [List.length_set]; exact h.len, Nat.succ_lt_succ h.lt, hj, ?_, ?_⟩
  · rw [filt_step hx, if_neg (by simp [hp]), ← h.kept, List.take_succ_eq_append_getElem (by rw [List.length_set]; exact hi), List.getElem_set_self, List.take_set_of_le (Nat.le_refl _)]
  · rw [List.drop_set_of_lt (by have := h.lt; omega), ← List.drop_drop, ← List.drop_drop, h.rest]
theorem Own.at7 {w : World} {base g n c i : Nat} {xs : List Lot} (h : Own L7 7 39 w base (.slice (some ⟨g, 0, none⟩) n c) xs) (hi : i < n) :
    ∃ x, xs[i]? = some x ∧ w.cell? ⟨g, i * 7, none⟩ = some (.string ⟨x.id.toArray⟩) ∧ w.cell? ⟨g, i * 7 + 1, none⟩ = some (.string ⟨x.inst.toArray⟩) ∧ w.cell? ⟨g, i * 7 + 2, none⟩ = some (.int .i64 x.acq) ∧
      w.cell? ⟨g, i * 7 + 3, none⟩ = some (.int .i64 x.opn) ∧ w.cell? ⟨g, i * 7 + 4, none⟩ = some (.string ⟨x.q.toArray⟩) ∧ w.cell? ⟨g, i * 7 + 5, none⟩ = some (.string ⟨x.c.toArray⟩) ∧ w.cell? ⟨g, i * 7 + 6, none⟩ = some (.string ⟨x.u.toArray⟩) := by
  obtain ⟨b, off, x, hA, _, hx, h0⟩ := (h.sl L7_len).lot7 hi
  injection hA with hA
  injection hA with e1 e2
  subst e1; subst e2
  simp only [Nat.zero_add] at h0
  exact ⟨x, hx, h0⟩
theorem below_cells7 {a w : World} {B g o : Nat} (h : Below B a w) (hg : B ≤ g) (u0 u1 u2 u3 u4 u5 u6 : Value) :
    Below B a (((((((w.setCell ⟨g, o, none⟩ u0).setCell ⟨g, o + 1, none⟩ u1).setCell ⟨g, o + 2, none⟩ u2).setCell ⟨g, o + 3, none⟩ u3).setCell ⟨g, o + 4, none⟩ u4).setCell ⟨g, o + 5, none⟩ u5).setCell ⟨g, o + 6, none⟩ u6) :=
  ((((((h.setCell hg _).setCell hg _).setCell hg _).setCell hg _).setCell hg _).setCell hg _).setCell hg _
set_option maxRecDepth 100000 in
set_option maxHeartbeats 4000000 in
theorem delLo_any (g0 : Nat) (cb : Array Value) (p : Lot → Bool) (A : Option Addr) (n c base : Nat) (xs : List Lot) (w : World) (eg : ∀ args w, (callFunc g0 args).run Tryz.prog w = .ok (.enter g0 args) w)
    (hp : ∀ (W : World) (x : Lot), Below base w W → Calls Tryz.prog g0 (#[LotV x] ++ cb) W fun e w' => e = .returned (.bool (p x)) ∧ Below W.heap.size W w') (ho : Own L7 7 39 w base (.slice A n c) xs) (hbs : base ≤ w.heap.size) (hn : n ≤ 1000000) :
    Calls Tryz.prog 24 #[.slice A n c, .func (.func g0) #[] cb] w fun e w' => ∃ m, e = .returned (.slice A m c) ∧ m = (xs.filter (fun x => !p x)).length ∧ Own L7 7 39 w' base (.slice A m c) (xs.filter (fun x => !p x)) ∧ Below base w w' := by
  have hnl := ho.facts.1
  have hIX := indexLo_any g0 cb p A n c xs w eg (fun W x _ hb => hp W x (hb.mono hbs)) (ho.sl L7_len) (by omega)
  have HIX := Lib.hid hIX; have HPR := Lib.hid hp; have HO := Lib.hid ho
  have HBS := Lib.hid hbs; have HNL := Lib.hid hnl
  have hic := idxG_cases p xs
  generalize idxG p xs = f at *
  have HIC := Lib.hid hic
  clear hIX hp ho hbs hnl hic
  rcases HIC.out with ⟨h1, h2⟩ | ⟨i0, x0, h1, h2, h3, h4⟩
  · subst h1
    have HF := Lib.hid (filt_none h2)
    clear h2 HIC
    go_enter Tryz.func24, Tryz.ntmps24
    go_wp2_with fail
    refine HIX.out.mono ?_
    rintro e w1 ⟨rfl, hb⟩
    go_wp2_with fail
    first | go_ret | skip
    exact ⟨n, rfl, by rw [HF.out]; exact HNL.out, by rw [HF.out]; exact HO.out.below hb, hb.mono HBS.out⟩
  · subst h1
    have HS := Lib.hid (DelS.start h2 h3 h4)
    have hi0 := (List.getElem?_eq_some_iff.1 h2).1
    obtain ⟨g, rfl, hgb⟩ : ∃ g, A = some ⟨g, 0, none⟩ ∧ base ≤ g := by
      obtain ⟨_, _, _, h⟩ := HO.out.facts
      rcases h with ⟨_, _, e⟩ | ⟨g, e, hg, _⟩
      · rw [e] at hi0; simp at hi0
      · exact ⟨g, e, hg⟩
    have hi0n : i0 < n := by have := HNL.out; omega
    have HGB := Lib.hid hgb
    clear h2 h3 h4 HIC hi0 hgb
    go_enter Tryz.func24, Tryz.ntmps24
    go_wp2_with fail
    refine HIX.out.mono ?_
    rintro e w1 ⟨rfl, hb⟩
    have HO1 := Lib.hid (HO.out.below hb); have HB1 := Lib.hid (hb.mono HBS.out)
    clear hb
    go_wp2_with fail
    go_loopw [5, 6, 7] (fun a b _ wr => ∃ (i j : Nat) (ys : List Lot), a = .int .i64 i ∧ b = .int .i64 j ∧ i < j ∧ j ≤ n ∧ Hid (DelS p xs ys i j) ∧ Hid (Own L7 7 39 wr base (.slice (some ⟨g, 0, none⟩) n c) ys) ∧ Hid (Below base w wr)) (fun _ b _ _ => n - (intOf b).toNat)
    case atStart => exact ⟨i0, i0 + 1, xs, rfl, by go_num, by omega, by omega, HS.out, HO1.out, HB1.out⟩
    case round =>
      clear HS HO1 HB1 hi0n HIX HO
      obtain ⟨i, j, ys, rfl, rfl, hij, hjn, HS, HO, HB⟩ := hrel
      by_cases hlt : j < n
      · obtain ⟨y, hy, d0, d1, d2, d3, d4, d5, d6⟩ := HO.out.at7 hlt
        obtain ⟨x, hx, e0, e1, e2, e3, e4, e5, e6⟩ := HO.out.at7 (i := i) (by omega)
        have HX := Lib.hid hx; have HY := Lib.hid (HS.out.at_.symm.trans hy)
        clear hx hy e0 e1 e2 e3 e4 e5 e6
        have hjj : (0 : Int) ≤ (j : Int) := by omega
        have hjl : (j : Int) < (n : Int) := by omega
        have HOA := Lib.hid (HO.out.alloc (.cells #[.string ⟨y.id.toArray⟩, .string ⟨y.inst.toArray⟩, .int .i64 y.acq, .int .i64 y.opn, .string ⟨y.q.toArray⟩, .string ⟨y.c.toArray⟩, .string ⟨y.u.toArray⟩] 39))
        have HBB := Lib.hid (show base ≤ wr.heap.size from Nat.le_trans HBS.out HB.out.size)
        have HBA := Lib.hid (HB.out.alloc HBB.out (.cells #[.string ⟨y.id.toArray⟩, .string ⟨y.inst.toArray⟩, .int .i64 y.acq, .int .i64 y.opn, .string ⟨y.q.toArray⟩, .string ⟨y.c.toArray⟩, .string ⟨y.u.toArray⟩] 39))
        have HVB := Lib.hid (show BlkB (wr.alloc (.cells #[.string ⟨y.id.toArray⟩, .string ⟨y.inst.toArray⟩, .int .i64 y.acq, .int .i64 y.opn, .string ⟨y.q.toArray⟩, .string ⟨y.c.toArray⟩, .string ⟨y.u.toArray⟩] 39)) wr.heap.size #[.string ⟨y.id.toArray⟩, .string ⟨y.inst.toArray⟩, .int .i64 y.acq, .int .i64 y.opn, .string ⟨y.q.toArray⟩, .string ⟨y.c.toArray⟩, .string ⟨y.u.toArray⟩] 39 from heap_alloc_new wr _)
        go_upto_region 8 with (fail)
        clear d0 d1 d2 d3 d4 d5 d6
        generalize (wr.alloc (.cells #[.string ⟨y.id.toArray⟩, .string ⟨y.inst.toArray⟩, .int .i64 y.acq, .int .i64 y.opn, .string ⟨y.q.toArray⟩, .string ⟨y.c.toArray⟩, .string ⟨y.u.toArray⟩] 39)) = Wy at *
        have v0 := HVB.out.cell 0 rfl; have v1 := HVB.out.cell 1 rfl; have v2 := HVB.out.cell 2 rfl; have v3 := HVB.out.cell 3 rfl; have v4 := HVB.out.cell 4 rfl; have v5 := HVB.out.cell 5 rfl; have v6 := HVB.out.cell 6 rfl
        have hcall := HPR.out Wy y HBA.out
        unfold LotV S at hcall
        have HC := Lib.hid hcall; clear hcall
        cases hq : p y with
        | true =>
          rw [hq] at HC
          have HQ := Lib.hid hq; clear hq
          go_wp2_with (go_at_fn g0; refine (HC.out).mono ?_; rintro e w2 ⟨rfl, hb2⟩)
          go_roundw
          case rel => exact ⟨_, _, _, _, _, _, _, _, _, _, _, _, _, _, _, _, _, _, _, _, _, _, _, ⟨i, j + 1, ys, rfl, by go_num, by omega, by omega, HS.out.skip HY.out HQ.out, HOA.out.below hb2, HBA.out.trans (hb2.mono (Nat.le_trans HBS.out HBA.out.size))⟩, rfl⟩
          case measure => simp [intOf]; omega
        | false =>
          rw [hq] at HC
          have HQ := Lib.hid hq; clear hq
          go_upto_region 9 with (go_at_fn g0; refine (HC.out).mono ?_; rintro e w2 ⟨rfl, hb2⟩)
          have HO2 := Lib.hid (HOA.out.below hb2); have HV2 := Lib.hid (HVB.out.here hb2)
          have HB2 := Lib.hid (HBA.out.trans (hb2.mono (Nat.le_trans HBS.out HBA.out.size)))
          clear v0 v1 v2 v3 v4 v5 v6
          have v0 := HV2.out.cell 0 rfl; have v1 := HV2.out.cell 1 rfl; have v2 := HV2.out.cell 2 rfl; have v3 := HV2.out.cell 3 rfl; have v4 := HV2.out.cell 4 rfl; have v5 := HV2.out.cell 5 rfl; have v6 := HV2.out.cell 6 rfl
          obtain ⟨x', hx', e0, e1, e2, e3, e4, e5, e6⟩ := HO2.out.at7 (i := i) (by omega)
          obtain rfl : x = x' := Option.some.inj (HX.out.symm.trans hx')
          have hf : ∀ q, w2.frozen? ⟨g, q, none⟩ = false := fun q => HO2.out.frozen q
          have f0 := hf (i * 7); have f1 := hf (i * 7 + 1); have f2 := hf (i * 7 + 2); have f3 := hf (i * 7 + 3); have f4 := hf (i * 7 + 4); have f5 := hf (i * 7 + 5); have f6 := hf (i * 7 + 6)
          have hii : (0 : Int) ≤ (i : Int) := by omega
          have hil : (i : Int) < (n : Int) := by omega
          have HO3 := Lib.hid (HO2.out.set7 (y := y) HX.out)
          have HB3 := Lib.hid (below_cells7 (o := i * 7) HB2.out HGB.out (.string ⟨y.id.toArray⟩) (.string ⟨y.inst.toArray⟩) (.int .i64 y.acq) (.int .i64 y.opn) (.string ⟨y.q.toArray⟩) (.string ⟨y.c.toArray⟩) (.string ⟨y.u.toArray⟩))
          clear hf hx'
          go_wp2_with fail
          go_roundw
          case rel => exact ⟨_, _, _, _, _, _, _, _, _, _, _, _, _, _, _, _, _, _, _, _, _, _, _, ⟨i + 1, j + 1, ys.set i y, by go_num, by go_num, by omega, by omega, HS.out.keep HY.out HQ.out, HO3.out, HB3.out⟩, rfl⟩
          case measure => simp [intOf]; omega
      · obtain rfl : j = n := by omega
        have hjc : j ≤ c := by have := HO.out.facts.2.1; have := HO.out.facts.1; omega
        have hii : (0 : Int) ≤ (i : Int) := by omega
        have hil : (i : Int) ≤ (j : Int) := by omega
        have hjc2 : (j : Int) ≤ (c : Int) := by omega
        obtain ⟨vs, hvs⟩ : ∃ vs, vs = (Builtin.zeroCells zLot.cells (j - i)).toList := ⟨_, rfl⟩
        have hcl : ∀ ty, (Builtin.clear_ #[22] ty #[.slice (some ⟨g, i * 7, none⟩) (j - i) (c - i)]).run Tryz.prog wr = .ok (.tuple #[]) (wr.setCells g (i * 7) vs) := fun ty =>
          run_clear_k wr 22 39 ty zLot Tryz.underlying22 zero_lot g (i * 7) (j - i) (c - i) (by omega) vs hvs.symm (fun l hl => by
            have hvl : vs.length = (j - i) * 7 := by rw [hvs]; exact zero_len _
            have hyl : ys.length = j := HO.out.facts.1.symm
            have hfl := flat_len L7_len ys
            have hrow : World.ownsRow wr base 39 7 (.slice (some ⟨g, 0, none⟩) j c) j (ys.flatMap L7) := by have h := HO.out; unfold Own at h; rwa [hyl] at h
            have hlt2 : i * 7 + l < j * 7 := by omega
            rw [World.ownsRow.cellAt hrow (i * 7 + l) hlt2, List.getElem?_eq_getElem (by omega)]; rfl) (fun l _ => HO.out.frozen _) (by rw [hvs]; exact zero_one _)
        have HO4 := Lib.hid (HO.out.cleared (i := i) (by omega) vs)
        have HB4 := Lib.hid (below_cells vs (i * 7) HGB.out HB.out)
        have HK := Lib.hid (show ys.take i = xs.filter (fun x => !p x) by have h := HS.out.kept; rwa [show xs.take j = xs from List.take_of_length_le (by have := HNL.out; omega)] at h)
        have HKL := Lib.hid (show i = (xs.filter (fun x => !p x)).length by rw [← HK.out, List.length_take]; have := HO.out.facts.1; omega)
        rw [HK.out] at HO4
        clear hvs
        go_wp2_with (simp only [hcl])
        first | go_ret | skip
        exact ⟨i, rfl, HKL.out, HO4.out, HB4.out⟩
end Go.Proofs.YtbnfgbcgpbdpcaaGreatDoor
/- The law LotmapOthers: plain facts that its walk asks for. -/
namespace Go.Proofs.YtbnfgbcgpbdpcaaGreatDoor
open Go.RowKit Go.Shelf

/-- What the closure of the law takes out of a list. -/
def othD (i : List UInt8) (nw : List Lot) (z : Lot) : Bool := z.inst == i || nw.any (fun x => decide (x = z))
theorem oth_none {ls : List Lot} {m : Mp} (h : (mapL ls m).2 = 0) (ho : lotsOf ls m.inst = []) : (mapL ls m).1 = ⟨ls, [], []⟩ := by
  rcases mapL_case ls m with ⟨e, he, h'⟩ | ⟨hl, hm, ho', h'⟩ | ⟨A, B, hM, h'⟩
  · rw [h'] at h; exact absurd h he
  · rw [h']
  · exact absurd ho hM.old
theorem oth_made {ls : List Lot} {m : Mp} (h : (mapL ls m).2 = 0) : ∀ z ∈ newOf ls (mapL ls m).1.lots, z.inst = m.other ∧ z.u = z.q := by
  rcases mapL_case ls m with ⟨e, he, h'⟩ | ⟨hl, hm, ho', h'⟩ | ⟨A, B, hM, h'⟩
  · rw [h'] at h; exact absurd h he
  · rw [h']
    intro z hz
    have hz : z ∈ newOf ls ls := hz
    rw [new_self] at hz; simp at hz
  · rw [h']
    intro z hz
    have hz : z ∈ newOf ls (A ++ mdO ls m ++ B) := hz
    rw [hM.new] at hz
    obtain ⟨i, y, hy, hn, rfl⟩ := mem_madeL hz
    exact ⟨rfl, rfl⟩
theorem oth_same {ls : List Lot} {m : Mp} (h : (mapL ls m).2 = 0) :
    (mapL ls m).1.lots.filter (fun z => !othD m.inst (newOf ls (mapL ls m).1.lots) z) = ls.filter (fun z => !othD m.inst (newOf ls (mapL ls m).1.lots) z) := by
  rcases mapL_case ls m with ⟨e, he, h'⟩ | ⟨hl, hm, ho', h'⟩ | ⟨A, B, hM, h'⟩
  · rw [h'] at h; exact absurd h he
  · rw [h']
  · rw [h']
    have hf : ∀ z : Lot, (!othD m.inst (newOf ls (A ++ mdO ls m ++ B)) z) = decide (z.inst ≠ m.inst ∧ z ∉ mdO ls m) := by
      intro z
      rw [hM.new]
      unfold othD
      rw [Bool.eq_iff_iff]
      simp only [Bool.not_eq_true', Bool.or_eq_false_iff, List.any_eq_false, decide_eq_true_eq, beq_eq_false_iff_ne]
      refine and_congr Iff.rfl ⟨fun h hz => h z hz rfl, fun h x hx e => h (e ▸ hx)⟩
    show (A ++ mdO ls m ++ B).filter (fun z => !othD m.inst (newOf ls (A ++ mdO ls m ++ B)) z) = ls.filter (fun z => !othD m.inst (newOf ls (A ++ mdO ls m ++ B)) z)
    simp only [hf]
    exact hM.others
end Go.Proofs.YtbnfgbcgpbdpcaaGreatDoor
/- The closures of the law LotmapOthers. -/
namespace Go.Proofs.YtbnfgbcgpbdpcaaGreatDoor
open Go.RowKit Go.Shelf
attribute [local go_sem ↓] Go.wp_at_zero Go.wp_at_succ

theorem othD_eq (i : List UInt8) (nw : List Lot) (x : Lot) : othD i nw x = (x.inst == i || nw.any (fun y => decide (x = y))) := by
  unfold othD
  congr 2
  funext y
  exact decide_eq_decide.2 ⟨Eq.symm, Eq.symm⟩
set_option maxRecDepth 100000 in
set_option maxHeartbeats 2000000 in
theorem oth2_any (x : Lot) (i : List UInt8) (bm bd : Nat) (Am : Option Addr) (cm : Nat) (nw : List Lot) (W : World) (hm : W.cell? ⟨bm, 2, none⟩ = some (.string ⟨i.toArray⟩)) (hd : W.cell? ⟨bd, 0, none⟩ = some (.slice Am nw.length cm)) (hr : Lots W W.heap.size Am nw.length nw) (hn : nw.length ≤ 1000000) :
    Calls Tryz.prog 26 (#[LotV x] ++ #[.pointer (some ⟨bm, 0, none⟩), .pointer (some ⟨bd, 0, none⟩)]) W fun e w' => e = .returned (.bool (othD i nw x)) ∧ Below W.heap.size W w' := by
  have HB0 := Lib.hid ((Below.refl W.heap.size W).alloc (Nat.le_refl _) (.cells #[.string ⟨x.id.toArray⟩, .string ⟨x.inst.toArray⟩, .int .i64 x.acq, .int .i64 x.opn, .string ⟨x.q.toArray⟩, .string ⟨x.c.toArray⟩, .string ⟨x.u.toArray⟩] 39))
  have HBZ := Lib.hid (show BlkB (W.alloc (.cells #[.string ⟨x.id.toArray⟩, .string ⟨x.inst.toArray⟩, .int .i64 x.acq, .int .i64 x.opn, .string ⟨x.q.toArray⟩, .string ⟨x.c.toArray⟩, .string ⟨x.u.toArray⟩] 39)) W.heap.size #[.string ⟨x.id.toArray⟩, .string ⟨x.inst.toArray⟩, .int .i64 x.acq, .int .i64 x.opn, .string ⟨x.q.toArray⟩, .string ⟨x.c.toArray⟩, .string ⟨x.u.toArray⟩] 39 from heap_alloc_new W _)
  have c1 := (HB0.out.cell (p := ⟨bm, 2, none⟩) (World.block_lt_of_cell? W _ hm)).trans hm
  have c2 := (HB0.out.cell (p := ⟨bd, 0, none⟩) (World.block_lt_of_cell? W _ hd)).trans hd
  have HH := Lib.hid (hasLot_any Am nw.length cm nw x _ (hr.here HB0.out) (by omega))
  have HD := Lib.hid (othD_eq i nw x)
  have e0 := HBZ.out.cell 0 rfl; have e1 := HBZ.out.cell 1 rfl; have e2 := HBZ.out.cell 2 rfl; have e3 := HBZ.out.cell 3 rfl; have e4 := HBZ.out.cell 4 rfl; have e5 := HBZ.out.cell 5 rfl; have e6 := HBZ.out.cell 6 rfl
  clear hm hd hr
  generalize nw.any (fun y => decide (x = y)) = hb at *
  generalize othD i nw x = od at *
  unfold LotV S at *
  show Calls _ _ #[.agg #[.string ⟨x.id.toArray⟩, .string ⟨x.inst.toArray⟩, .int .i64 x.acq, .int .i64 x.opn, .string ⟨x.q.toArray⟩, .string ⟨x.c.toArray⟩, .string ⟨x.u.toArray⟩], .pointer (some ⟨bm, 0, none⟩), .pointer (some ⟨bd, 0, none⟩)] _ _
  cases hq : (x.inst == i) with
  | true =>
    have HO := Lib.hid (show od = true by rw [HD.out, hq]; rfl)
    rw [HO.out]
    clear HH HD
    go_enter Tryz.func26, Tryz.ntmps26
    go_wp2_with fail
    first | go_ret | skip
    exact ⟨rfl, HB0.out⟩
  | false =>
    have HO := Lib.hid (show od = hb by rw [HD.out, hq]; rfl)
    rw [HO.out]
    clear HD
    go_enter Tryz.func26, Tryz.ntmps26
    go_wp2_with (go_at_call 27; refine (HH.out).mono ?_; rintro e w' ⟨rfl, hb'⟩)
    first | go_ret | skip
    exact ⟨rfl, HB0.out.trans (hb'.mono HB0.out.size)⟩
set_option maxRecDepth 100000 in
set_option maxHeartbeats 2000000 in
theorem oth1_any (A : Option Addr) (n c : Nat) (ls : List Lot) (i : List UInt8) (bm bd : Nat) (Am : Option Addr) (cm : Nat) (nw : List Lot) (W : World) (hnil : (A = none ∧ c = 0) ∨ ∃ a, A = some a) (hs : Lots W W.heap.size A n ls) (hls : n ≤ 1000000)
    (hm : W.cell? ⟨bm, 2, none⟩ = some (.string ⟨i.toArray⟩)) (hd : W.cell? ⟨bd, 0, none⟩ = some (.slice Am nw.length cm)) (hr : Lots W W.heap.size Am nw.length nw) (hn : nw.length ≤ 1000000) :
    Calls Tryz.prog 23 #[.slice A n c, .pointer (some ⟨bm, 0, none⟩), .pointer (some ⟨bd, 0, none⟩)] W fun e w' => ∃ A' m c', e = .returned (.slice A' m c') ∧ m = (ls.filter (fun x => !othD i nw x)).length ∧ Own L7 7 39 w' W.heap.size (.slice A' m c') (ls.filter (fun x => !othD i nw x)) ∧ Below W.heap.size W w' := by
  have HCL := Lib.hid (show Calls Tryz.prog 25 #[.slice A n c] W (RetOwn L7 7 39 W.heap.size W ls) by
    rcases hnil with ⟨rfl, rfl⟩ | ⟨a, rfl⟩
    · have h0 : n = 0 := by
        rcases Nat.eq_zero_or_pos n with h | h
        · exact h
        · obtain ⟨b, off, hb, _⟩ := hs.2 h; cases hb
      subst h0
      have : ls = [] := List.length_eq_zero_iff.1 hs.1.symm
      subst this
      exact cloneLo_nil W
    · exact cloneLo_any a n c ls W hs hls)
  have hlm := World.block_lt_of_cell? W _ hm
  have hld := World.block_lt_of_cell? W _ hd
  have HP := Lib.hid (fun (X : World) (x : Lot) (hb : Below W.heap.size W X) => oth2_any x i bm bd Am cm nw X ((hb.cell (p := ⟨bm, 2, none⟩) hlm).trans hm) ((hb.cell (p := ⟨bd, 0, none⟩) hld).trans hd) (hr.here hb) hn)
  have HLE := Lib.hid (show ls.length ≤ 1000000 by rw [← hs.1]; exact hls)
  clear hnil hs hls hm hd hr hn hlm hld
  go_enter Tryz.func23, Tryz.ntmps23
  go_wp2_with fail
  refine HCL.out.mono ?_
  rintro e w1 ⟨A1, c1, rfl, ho, hb⟩
  have HDL := Lib.hid (delLo_any 26 #[.pointer (some ⟨bm, 0, none⟩), .pointer (some ⟨bd, 0, none⟩)] (fun x => othD i nw x) A1 ls.length c1 W.heap.size ls w1 (enters_of Tryz.func26 (by kernel_rfl) rfl) (fun X x hX => HP.out X x (hb.trans (hX.mono (Nat.le_refl _)))) ho hb.size HLE.out)
  have HB := Lib.hid hb
  clear ho hb HCL
  go_wp2_with fail
  refine HDL.out.mono ?_
  rintro e w2 ⟨m, rfl, hm, ho, hb2⟩
  have HO := Lib.hid ho; have HM := Lib.hid hm
  clear ho hm HDL
  go_wp2_with fail
  first | go_ret | skip
  exact ⟨_, _, _, rfl, HM.out, HO.out, HB.out.trans hb2⟩
end Go.Proofs.YtbnfgbcgpbdpcaaGreatDoor
/- The walk of the law LotmapOthers. -/
namespace Go.Proofs.YtbnfgbcgpbdpcaaGreatDoor
open Go.RowKit Go.Shelf
attribute [local go_sem ↓] Go.wp_at_zero Go.wp_at_succ

theorem same_lots (A A' : Option Addr) (n c c' : Nat) (xs : List Lot) (w : World) (h1 : Lots w w.heap.size A n xs) (h2 : Lots w w.heap.size A' n xs) (hn : n ≤ 1000000) :
    Calls Tryz.prog 22 #[.slice A n c, .slice A' n c'] w fun e w' => e = .returned (.bool true) ∧ Below w.heap.size w w' := by
  have HE := Lib.hid (eqLots_same A A' n c c' xs w h1 h2 hn)
  clear h1 h2
  go_enter Tryz.func22, Tryz.ntmps22
  go_wp2_with fail
  refine HE.out.mono ?_
  rintro e w1 ⟨rfl, hb⟩
  go_wp2_with fail
  first | go_ret | skip
  exact ⟨rfl, hb⟩
set_option maxRecDepth 100000 in
set_option maxHeartbeats 8000000 in
theorem others_walk (A : Option Addr) (n c : Nat) (ls : List Lot) (m : Mp) (w : World) (hp : Env w) (hs : Lots w w.heap.size A n ls) (hnil : (A = none ∧ c = 0) ∨ ∃ a, A = some a) (hn : n ≤ 9223372036854775807) (hi : ∀ y ∈ ls, y.I)
    (hm : m.Max) (hd : -9223372036854775808 ≤ m.day ∧ m.day ≤ 9223372036854775807) :
    Calls Tryz.prog 6 #[.slice A n c, MpV m] w fun e w' => e = .returned (.bool true) ∧ Below w.heap.size w w' := by
  have HGR := Lib.hid (fun W (hb : Below w.heap.size w W) => lwGreat_any A n c ls m W (hs.here hb) hn hm)
  have HAW := Lib.hid (fun W (hb : Below w.heap.size w W) => lwAwake_any W (hp.here hb))
  have HK0 := Lib.hid (show Kp w [(w.heap.size, #[.string ⟨m.cause.toArray⟩, .int .i64 m.day, .string ⟨m.inst.toArray⟩, .string ⟨m.other.toArray⟩, .string ⟨m.ratio.n.toArray⟩, .string ⟨m.ratio.d.toArray⟩, .string ⟨m.share.n.toArray⟩, .string ⟨m.share.d.toArray⟩, .string ⟨m.price.n.toArray⟩, .string ⟨m.price.d.toArray⟩, .bool m.keep], 28)] (w.alloc (.cells #[.string ⟨m.cause.toArray⟩, .int .i64 m.day, .string ⟨m.inst.toArray⟩, .string ⟨m.other.toArray⟩, .string ⟨m.ratio.n.toArray⟩, .string ⟨m.ratio.d.toArray⟩, .string ⟨m.share.n.toArray⟩, .string ⟨m.share.d.toArray⟩, .string ⟨m.price.n.toArray⟩, .string ⟨m.price.d.toArray⟩, .bool m.keep] 28)) from (Kp.start hp).new w.heap.size rfl _ _)
  obtain ⟨z0, z1, z2, z3, z4, z5, z6, z7, z8, z9, z10⟩ := mp11 HK0.out (m := m) (i := 0) rfl
  cases hg : (grtL ls || longM m) with
  | true =>
    rw [hg] at HGR
    clear hp hs hnil hn hi hm hd hg
    unfold MpV at *
    rw [mpA_eq] at *
    go_enter Tryz.func6, Tryz.ntmps6
    go_wp2_with fail
    generalize w.alloc (.cells #[.string ⟨m.cause.toArray⟩, .int .i64 m.day, .string ⟨m.inst.toArray⟩, .string ⟨m.other.toArray⟩, .string ⟨m.ratio.n.toArray⟩, .string ⟨m.ratio.d.toArray⟩, .string ⟨m.share.n.toArray⟩, .string ⟨m.share.d.toArray⟩, .string ⟨m.price.n.toArray⟩, .string ⟨m.price.d.toArray⟩, .bool m.keep] 28) = W0 at *
    refine (HGR.out _ HK0.out.bl).mono ?_
    rintro e w1 ⟨rfl, hb1⟩
    have HK1 := Lib.hid (HK0.out.here hb1)
    clear z0 z1 z2 z3 z4 z5 z6 z7 z8 z9 z10 hb1
    go_wp2_with fail
    refine (HAW.out _ HK1.out.bl).mono ?_
    rintro e w2 ⟨rfl, hb2⟩
    go_wp2_with fail
    first | go_ret | skip
    exact ⟨rfl, (HK1.out.here hb2).bl⟩
  | false =>
    rw [hg] at HGR
    simp only [Bool.or_eq_false_iff] at hg
    obtain ⟨hn2, hsz⟩ := grtL_no hg.1 hi
    obtain ⟨hr, hsh, hpr, hmz⟩ := longM_no hg.2 hd.1 hd.2
    have hn1 : n ≤ 1002 := by rw [hs.1]; exact hn2
    have hmz5 : m.Sz 5000 ∨ m.Bad := hmz.imp (fun h => h.more (by omega)) id
    have hls5 : ∀ y ∈ ls, y.Sz 50000 := fun y hy => (hsz y hy).1.more (by omega)
    have hq13 : ∀ y ∈ ls, y.q.length ≤ 13 := fun y hy => (hsz y hy).2.1
    have hc13 : ∀ y ∈ ls, y.c.length ≤ 13 := fun y hy => (hsz y hy).2.2
    have HNU := Lib.hid (fun W (hb : Below w.heap.size w W) => numbers_any A n c ls m W 13 (hp.here hb) (hs.here hb) hnil (by omega) hls5 hmz5 (by decide) (by decide) hq13 hc13 (hr.more (by omega)) (hsh.more (by omega)) (hpr.more (by omega)))
    have HLEN := Lib.hid (mapL_len (m := m) (L := 13) (by decide) (by decide) (fun y hy => ⟨hq13 y hy, hc13 y hy⟩) hls5 (hr.more (by omega)) (hpr.more (by omega)))
    have HNO := Lib.hid (mapL_no (ls := ls) (m := m)); have HFR := Lib.hid (And.intro hr hpr)
    have HNL := Lib.hid (show numL ls m = if (mapL ls m).2 = 0 then (lotsOf ls m.inst, newOf ls (mapL ls m).1.lots, (mapL ls m).1, true) else ([], [], (mapL ls m).1, false) from rfl)
    have HP := Lib.hid hp; have HS := Lib.hid hs; have HN1 := Lib.hid hn1
    have HQC := Lib.hid (And.intro hq13 hc13); have HNIL := Lib.hid hnil
    clear hp hs hnil hn hi hm hd hg hn2 hsz hr hsh hpr hn1 hmz hmz5 hls5 hq13 hc13
    unfold MpV at *
    rw [mpA_eq] at *
    go_enter Tryz.func6, Tryz.ntmps6
    go_wp2_with fail
    generalize w.alloc (.cells #[.string ⟨m.cause.toArray⟩, .int .i64 m.day, .string ⟨m.inst.toArray⟩, .string ⟨m.other.toArray⟩, .string ⟨m.ratio.n.toArray⟩, .string ⟨m.ratio.d.toArray⟩, .string ⟨m.share.n.toArray⟩, .string ⟨m.share.d.toArray⟩, .string ⟨m.price.n.toArray⟩, .string ⟨m.price.d.toArray⟩, .bool m.keep] 28) = W0 at *
    refine (HGR.out _ HK0.out.bl).mono ?_
    rintro e w1 ⟨rfl, hb1⟩
    have HK1 := Lib.hid (HK0.out.here hb1)
    clear z0 z1 z2 z3 z4 z5 z6 z7 z8 z9 z10 hb1 HGR HK0
    obtain ⟨z0, z1, z2, z3, z4, z5, z6, z7, z8, z9, z10⟩ := mp11 HK1.out (m := m) (i := 0) rfl
    go_wp2_with fail
    refine (HNU.out _ HK1.out.bl).mono ?_
    rintro e w2 ⟨Ao, co, Am, cm, A1, c1, Ag, cg, As, cs, rfl, oO, oM, oL, oG, oS, hb2⟩
    clear z0 z1 z2 z3 z4 z5 z6 z7 z8 z9 z10 HNU
    by_cases h0 : (mapL ls m).2 = 0
    · rw [HNL.out, if_pos h0] at oO oM oL oG oS ⊢
      have HNONE := Lib.hid (oth_none h0)
      have HMADE := Lib.hid (oth_made h0)
      have HSAME := Lib.hid (oth_same h0)
      obtain ⟨_, _, _, q4, q5, q6⟩ := HLEN.out
      have HNL2 := Lib.hid (show (newOf ls (mapL ls m).1.lots).length ≤ 1000 from Nat.le_trans (List.length_filter_le _ _) q4)
      have HL1 := Lib.hid q4
      dsimp only at oO oM oL oG oS ⊢
      clear HNO HNL HLEN h0 q4 q5 q6 HQC HFR HP
      by_cases ho : lotsOf ls m.inst = []
      · have hN := HNONE.out ho
        rw [hN] at oM oL oG oS ⊢
        rw [ho] at oO ⊢
        dsimp only at oO oM oL oG oS ⊢
        rw [show ([] : List Lot).length = 0 from rfl, show ([] : List Gain).length = 0 from rfl, show ([] : List Stp).length = 0 from rfl]
        clear HNONE HMADE HSAME HNL2 HL1 hN
        have HK2 := Lib.hid (HK1.out.here hb2)
        have HK3 := Lib.hid ((HK2.out.new w2.heap.size rfl #[.slice Am (newOf ls ls).length cm] 22).new (w2.heap.size + 1) (by simp) #[.slice A1 ls.length c1, .slice Ag 0 cg, .slice As 0 cs, .slice none 0 0] 35)
        have hB1 := HK1.out.bl.size
        have hB2 : w.heap.size ≤ w2.heap.size := Nat.le_trans HK1.out.bl.size hb2.size
        have HOL := Lib.hid (((oL.base_ hB1).alloc (.cells #[.slice Am (newOf ls ls).length cm] 22)).alloc (.cells #[.slice A1 ls.length c1, .slice Ag 0 cg, .slice As 0 cs, .slice none 0 0] 35))
        clear oO oM oL oG oS hb2 hB1
        go_upto_region 6 with (fail)
        generalize ((w2.alloc (.cells #[.slice Am (newOf ls ls).length cm] 22)).alloc (.cells #[.slice A1 ls.length c1, .slice Ag 0 cg, .slice As 0 cs, .slice none 0 0] 35)) = W3 at *
        have e0 := HK3.out.c 0 0 rfl rfl; have e1 := HK3.out.c 0 1 rfl rfl; have e2 := HK3.out.c 0 2 rfl rfl
        have HSM := Lib.hid (show Calls Tryz.prog 22 #[.slice A1 ls.length c1, .slice A n c] W3 fun e w' => e = .returned (.bool true) ∧ Below W3.heap.size W3 w' by
          have h := HS.out.here HK3.out.bl
          rw [show n = ls.length from HS.out.1] at h ⊢
          exact same_lots A1 A ls.length c1 c ls W3 (HOL.out.sl L7_len) h (by have := HN1.out; have := HS.out.1; omega))
        go_wp2_with fail
        refine HSM.out.mono ?_
        rintro e w4 ⟨rfl, hb4⟩
        have HK4 := Lib.hid (HK3.out.here hb4)
        clear e0 e1 e2 hb4
        have e0 := HK4.out.c 0 0 rfl rfl; have e1 := HK4.out.c 0 1 rfl rfl; have e2 := HK4.out.c 0 2 rfl rfl
        go_wp2_with fail
        refine (HAW.out _ HK4.out.bl).mono ?_
        rintro e w5 ⟨rfl, hb5⟩
        go_wp2_with fail
        first | go_ret | skip
        exact ⟨rfl, (HK4.out.here hb5).bl⟩
      · have hol0 : (lotsOf ls m.inst).length ≠ 0 := fun h => ho (List.length_eq_zero_iff.1 h)
        clear ho HNONE
        have HLS := Lib.hid (show ls.length ≤ 1002 by have := HN1.out; have := HS.out.1; omega)
        generalize newOf ls (mapL ls m).1.lots = nw at *
        generalize lotsOf ls m.inst = old at *
        generalize (mapL ls m).1.lots = lots at *
        generalize (mapL ls m).1.gains = gains at *
        generalize (mapL ls m).1.steps = steps at *
        have HK2 := Lib.hid (HK1.out.here hb2)
        have HK3 := Lib.hid ((HK2.out.new w2.heap.size rfl #[.slice Am nw.length cm] 22).new (w2.heap.size + 1) (by simp) #[.slice A1 lots.length c1, .slice Ag gains.length cg, .slice As steps.length cs, .slice none 0 0] 35)
        have hB1 := HK1.out.bl.size
        have hB2 : w.heap.size ≤ w2.heap.size := Nat.le_trans HK1.out.bl.size hb2.size
        have HOM := Lib.hid (((oM.base_ hB1).alloc (.cells #[.slice Am nw.length cm] 22)).alloc (.cells #[.slice A1 lots.length c1, .slice Ag gains.length cg, .slice As steps.length cs, .slice none 0 0] 35))
        have HOL := Lib.hid (((oL.base_ hB1).alloc (.cells #[.slice Am nw.length cm] 22)).alloc (.cells #[.slice A1 lots.length c1, .slice Ag gains.length cg, .slice As steps.length cs, .slice none 0 0] 35))
        clear oO oM oL oG oS hb2 hB1
        go_upto_region 6 with (fail)
        generalize ((w2.alloc (.cells #[.slice Am nw.length cm] 22)).alloc (.cells #[.slice A1 lots.length c1, .slice Ag gains.length cg, .slice As steps.length cs, .slice none 0 0] 35)) = W3 at *
        have e0 := HK3.out.c 1 0 rfl rfl
        go_wp2_with fail
        go_loopw [11, 64] (fun _ j wr => ∃ k : Nat, k ≤ nw.length ∧ j = .int .i64 k ∧ Hid (Below W3.heap.size W3 wr)) (fun _ j _ => nw.length - (intOf j).toNat)
        case atStart => exact ⟨0, Nat.zero_le _, rfl, Below.refl _ _⟩
        case round =>
          clear e0
          obtain ⟨k, hk, rfl, HBR⟩ := hrel
          have hnl := HNL2.out
          by_cases hlt : k < nw.length
          · have HKR := Lib.hid (HK3.out.here HBR.out)
            obtain ⟨b, off, y, hAe, hb, hy, d0, d1, d2, d3, d4, d5, d6⟩ := ((HOM.out.below HBR.out).sl L7_len).lot7 hlt
            obtain ⟨yi, yu⟩ := HMADE.out y (List.mem_of_getElem? hy)
            have HYI := Lib.hid yi; have HYU := Lib.hid yu
            subst hAe
            clear hy yi yu
            have HA1 := Lib.hid (HKR.out.new wr.heap.size rfl #[.string ⟨y.id.toArray⟩, .string ⟨y.inst.toArray⟩, .int .i64 y.acq, .int .i64 y.opn, .string ⟨y.q.toArray⟩, .string ⟨y.c.toArray⟩, .string ⟨y.u.toArray⟩] 39)
            have HBA := Lib.hid (HBR.out.alloc HBR.out.size (.cells #[.string ⟨y.id.toArray⟩, .string ⟨y.inst.toArray⟩, .int .i64 y.acq, .int .i64 y.opn, .string ⟨y.q.toArray⟩, .string ⟨y.c.toArray⟩, .string ⟨y.u.toArray⟩] 39))
            go_upto_region 12 with (fail)
            clear d0 d1 d2 d3 d4 d5 d6
            generalize (wr.alloc (.cells #[.string ⟨y.id.toArray⟩, .string ⟨y.inst.toArray⟩, .int .i64 y.acq, .int .i64 y.opn, .string ⟨y.q.toArray⟩, .string ⟨y.c.toArray⟩, .string ⟨y.u.toArray⟩] 39)) = Wy at *
            have y1 : Wy.cell? ⟨wr.heap.size, 1, none⟩ = some (.string ⟨m.other.toArray⟩) := by rw [← HYI.out]; exact HA1.out.c 0 1 rfl rfl
            have y6 : Wy.cell? ⟨wr.heap.size, 6, none⟩ = some (.string ⟨y.q.toArray⟩) := by rw [← HYU.out]; exact HA1.out.c 0 6 rfl rfl
            have y4 := HA1.out.c 0 4 rfl rfl; have m3 := HA1.out.c 3 3 rfl rfl
            go_wp2_with fail
            go_roundw
            case rel => exact ⟨k + 1, by omega, by go_num, HBA.out⟩
            case measure => simp [intOf]; omega
          · obtain rfl : k = nw.length := by omega
            clear hk hlt
            obtain ⟨L, hL⟩ : ∃ L, L = ls.filter (fun x => !othD m.inst nw x) := ⟨_, rfl⟩
            have HLL := Lib.hid (show L.length ≤ 1000000 by have := HLS.out; have := List.length_filter_le (fun x => !othD m.inst nw x) ls; rw [← hL] at this; omega)
            have HC1 := Lib.hid (fun X (h : Below W3.heap.size W3 X) => oth1_any A n c ls m.inst w.heap.size w2.heap.size Am cm nw X HNIL.out (HS.out.here (HK3.out.here h).bl) (by have := HN1.out; omega) ((HK3.out.here h).c 2 2 rfl rfl) ((HK3.out.here h).c 1 0 rfl rfl) ((HOM.out.below h).sl L7_len) (by omega))
            have HNL3 := Lib.hid (show (A1 = none ∧ c1 = 0) ∨ ∃ a, A1 = some a by
              obtain ⟨_, _, _, h⟩ := HOL.out.facts
              rcases h with ⟨h1, h2, _⟩ | ⟨g, h1, _⟩
              · exact .inl ⟨h1, h2⟩
              · exact .inr ⟨_, h1⟩)
            have HC2 := Lib.hid (fun X (h : Below W3.heap.size W3 X) => oth1_any A1 lots.length c1 lots m.inst w.heap.size w2.heap.size Am cm nw X HNL3.out ((HOL.out.below h).sl L7_len) (by have := HL1.out; omega) ((HK3.out.here h).c 2 2 rfl rfl) ((HK3.out.here h).c 1 0 rfl rfl) ((HOM.out.below h).sl L7_len) (by omega))
            rw [← hL] at HC1
            rw [HSAME.out, ← hL] at HC2
            clear hL HSAME HMADE
            have HKR := Lib.hid (HK3.out.here HBR.out)
            go_upto_region 15 with (fail)
            have H0 := Lib.hid (Kp.start HKR.out.pw)
            have HR := Lib.hid (show ∀ X bs, Kp wr bs X → X.cell? ⟨w2.heap.size + 1, 0, none⟩ = some (.slice A1 lots.length c1) from fun X bs h => (HKR.out.here h.bl).c 0 0 rfl rfl)
            have HBX := Lib.hid (show ∀ X bs, Kp wr bs X → Below W3.heap.size W3 X from fun X bs h => HBR.out.trans (h.bl.mono HBR.out.size))
            have s00 := HR.out _ _ H0.out
            have g0 := H0.out.drew
            have s0 := HR.out _ _ g0
            go_region_held3 (fun X => X.cell? ⟨w2.heap.size + 1, 0, none⟩ = some (.slice A1 lots.length c1))
              (first
                | with_reducible exact s4
                | with_reducible exact s3
                | with_reducible exact s2
                | with_reducible exact s1
                | with_reducible exact s0
                | go_keep)
              (first
                | (go_at_call_of 23 (Value.slice A n c); first
                  | (refine (HC1.out _ (HBX.out _ _ g1)).mono ?_; rintro e y2 ⟨Aa, na, ca, rfl, rfl, oa, hy⟩
                     have g2 := g1.here hy
                     have s2 := HR.out _ _ g2
                     have ob := ob1.below hy)
                  | (refine (HC1.out _ (HBX.out _ _ g0)).mono ?_; rintro e y1 ⟨Aa, na, ca, rfl, rfl, oa1, hy⟩
                     have g1 := g0.here hy
                     have s1 := HR.out _ _ g1))
                | (go_at_call_of 23 (Value.slice A1 lots.length c1); first
                  | (refine (HC2.out _ (HBX.out _ _ g1)).mono ?_; rintro e y2 ⟨Ab, nb, cb, rfl, rfl, ob, hy⟩
                     have g2 := g1.here hy
                     have s2 := HR.out _ _ g2
                     have oa := oa1.below hy)
                  | (refine (HC2.out _ (HBX.out _ _ g0)).mono ?_; rintro e y1 ⟨Ab, nb, cb, rfl, rfl, ob1, hy⟩
                     have g1 := g0.here hy
                     have s1 := HR.out _ _ g1))
                | (go_at_call 28; refine (eqLots_same _ _ _ _ _ L _ (oa.sl L7_len) (ob.sl L7_len) HLL.out).mono ?_; rintro e y3 ⟨rfl, hy⟩
                   have g3 := g2.here hy
                   have s3 := HR.out _ _ g3)
                | (go_at_call 8; refine (HAW.out _ (HKR.out.here g3.bl).bl).mono ?_; rintro e y4 ⟨rfl, hy⟩
                   have g4 := g3.here hy
                   have s4 := HR.out _ _ g4))
            all_goals
              go_wp2_with fail
              first | go_ret | skip
              exact ⟨rfl, (HKR.out.here g4.bl).bl⟩
    · rw [HNL.out, if_neg h0, HNO.out h0] at oO oM oL oG oS ⊢
      dsimp only
      rw [show Res.none.lots.length = 0 from rfl, show Res.none.gains.length = 0 from rfl, show Res.none.steps.length = 0 from rfl, show ([] : List Lot).length = 0 from rfl]
      have HK2 := Lib.hid (HK1.out.here hb2)
      have HK3 := Lib.hid ((HK2.out.new w2.heap.size rfl #[.slice Am 0 cm] 22).new (w2.heap.size + 1) (by simp) #[.slice A1 0 c1, .slice Ag 0 cg, .slice As 0 cs, .slice none 0 0] 35)
      have e0 := HK3.out.c 0 0 rfl rfl; have e1 := HK3.out.c 0 1 rfl rfl; have e2 := HK3.out.c 0 2 rfl rfl
      clear oO oM oL oG oS hb2 h0
      go_wp2_with fail
      refine (HAW.out _ HK3.out.bl).mono ?_
      rintro e w4 ⟨rfl, hb4⟩
      go_wp2_with fail
      first | go_ret | skip
      exact ⟨rfl, (HK3.out.here hb4).bl⟩
end Go.Proofs.YtbnfgbcgpbdpcaaGreatDoor
