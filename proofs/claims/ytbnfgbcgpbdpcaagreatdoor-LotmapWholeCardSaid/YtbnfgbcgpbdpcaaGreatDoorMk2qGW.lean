/- Contract of lotmap's plan.kept. -/
import Derived.Test.YtbnfgbcgpbdpcaaGreatDoorQGW14
import Derived.Test.YtbnfgbcgpbdpcaaGreatDoorQGW16
import Derived.Test.YtbnfgbcgpbdpcaaGreatDoorQGW15
import Derived.Deep.RegionHeld3
import Derived.Deep.RegionWith
import Derived.Deep.DrawnRows
import Derived.Deep.DeepCutAuto
namespace Go.Proofs.YtbnfgbcgpbdpcaaGreatDoor
open Go.RowKit Go.Shelf
attribute [local go_sem ↓] Go.wp_at_zero Go.wp_at_succ ld84_eq

theorem keptL_len (m : Mp) (ms : List Int) (k : Nat) (l : List Lot) : (keptL m ms k l).length ≤ l.length := by
  induction l generalizing k with
  | nil => simp [keptL]
  | cons a l ih =>
    have h1 := ih (k + 1)
    have h2 := ih k
    simp only [keptL]
    split
    · split <;> simp <;> omega
    · simp; omega
theorem own_ge {W : World} {base g : Nat} {u : Value} {xs : List Lot} (h : Own L7 7 39 W base u xs) (hg : u.ownBlock = some g) : base ≤ g := by
  obtain ⟨A, c, rfl, _, _, _, h5⟩ := h.form
  exact (h5 g hg).2.1
theorem Below.set5 {W w : World} {n : Nat} {u : Value} (h : Below n W w) : Below n W (w.setCell ⟨n, 5, none⟩ u) := h.setCell (Nat.le_refl _) _
theorem lots1 {W : World} {q : Nat} {y : Lot} (h : BlkB W q (lotC7 y) 39) : Lots W W.heap.size (some ⟨q, 0, none⟩) 1 [y] := by
  refine ⟨rfl, fun _ => ⟨q, 0, rfl, h.lt, fun j z hj k u hk => ?_⟩⟩
  cases j with
  | zero =>
    simp only [List.getElem?_cons_zero, Option.some.injEq] at hj
    subst hj
    rw [Nat.zero_mul, Nat.zero_add]
    exact h.cell k (by rw [← lotC7_eq]; simpa using hk)
  | succ j => simp at hj
set_option maxRecDepth 100000 in
set_option maxHeartbeats 8000000 in
theorem kept_any (v : PlV) (x : Plan) (old : List Lot) (pn pm pf pp n₀ : Nat) (A : Option Addr) (n c : Nat) (ls : List Lot) (w : World) (hp : Env w) (hM : PlM w n₀ v x old pn pm pf pp) (hn₀ : n₀ ≤ w.heap.size) (hz : PlSz 20000 x)
    (hs : Lots w w.heap.size A n ls) (hl : ∀ y ∈ ls, y.Sz 50000) (hn : n ≤ 1000) (ho : old.length = ls.countP (fun z => decide (z.inst = v.m.inst))) :
    Calls Tryz.prog 60 #[.agg (plA v).toArray, .slice A n c] w (RetOwn L7 7 39 w.heap.size w (keptL v.m x.m 0 ls)) := by
  rw [plA_eq]
  have HB := Lib.hid (show BlkB (w.alloc (.cells (plB v) 88)) w.heap.size (plB v) 88 from heap_alloc_new w _)
  have HBW := Lib.hid ((Below.refl w.heap.size w).alloc (Nat.le_refl _) (.cells (plB v) 88))
  have HSZ := Lib.hid (show (w.alloc (.cells (plB v) 88)).heap.size = w.heap.size + 1 by simp)
  have hp1 := Lib.hid (hp.here HBW.out)
  have HM := Lib.hid (hM.below (HBW.out.mono hn₀))
  have HS := Lib.hid (hs.below HBW.out)
  have HZ := Lib.hid hz; have HL := Lib.hid hl; have HO := Lib.hid ho
  have E2 := Lib.hid (show (plB v)[2]? = some (.string ⟨v.m.inst.toArray⟩) from rfl)
  have E10 := Lib.hid (show (plB v)[10]? = some (.bool v.m.keep) from rfl)
  have E16 := Lib.hid (show (plB v)[16]? = some (.slice (some ⟨pm, 0, none⟩) v.on v.on) by rw [← hM.em]; rfl)
  have HPO := Lib.hid (show RetOwn L7 7 39 w.heap.size w (keptL v.m x.m 0 ls) = fun e w' => ∃ A c, e = .returned (.slice A (keptL v.m x.m 0 ls).length c) ∧ Own L7 7 39 w' w.heap.size (.slice A (keptL v.m x.m 0 ls).length c) (keptL v.m x.m 0 ls) ∧ Below w.heap.size w w' from rfl)
  generalize RetOwn L7 7 39 w.heap.size w (keptL v.m x.m 0 ls) = post at *
  generalize plB v = pb at *
  have HLE := Lib.hid hs.1
  have HNN := Lib.hid hn₀
  clear hp hM hz hs hl ho hn₀
  go_enter Tryz.func60, Tryz.ntmps60
  go_wp2
  generalize w.alloc (.cells pb 88) = W1 at *
  go_loopw [5, 6, 8, 11] (fun s a _ j wr => ∃ (k at_ : Nat) (A1 : Option Addr) (c1 : Nat), k ≤ n ∧ j = .int .i64 k ∧ a = .int .i64 at_ ∧ s = .slice A1 (keptL v.m x.m 0 (ls.take k)).length c1 ∧ Hid (v.m.keep = true → at_ = (ls.take k).countP (fun z => decide (z.inst = v.m.inst))) ∧ Hid (Own L7 7 39 wr W1.heap.size (.slice A1 (keptL v.m x.m 0 (ls.take k)).length c1) (keptL v.m x.m 0 (ls.take k))) ∧ Hid (Below W1.heap.size W1 wr)) (fun _ _ _ j _ => n - (intOf j).toNat)
  case atStart => exact ⟨0, 0, none, 0, Nat.zero_le _, rfl, rfl, rfl, (show _ → _ from fun _ => rfl), Own.nil, Below.refl _ _⟩
  case round =>
    obtain ⟨k, at_, A1, c1, hk, rfl, rfl, rfl, HAT, HOW, HBR⟩ := hrel
    by_cases hlt : k < n
    · have hwl : w.heap.size ≤ W1.heap.size := by have := HSZ.out; omega
      obtain ⟨b, off, y, rfl, hb, hy, d0, d1, d2, d3, d4, d5, d6⟩ := (HS.out.below (HBR.out.mono hwl)).lot7 hlt
      have HTK := Lib.hid (show ls.take (k + 1) = ls.take k ++ [y] by
        obtain ⟨h1, h2⟩ := List.getElem?_eq_some_iff.1 hy
        rw [List.take_succ_eq_append_getElem h1, h2])
      have HKS := Lib.hid (keptL_snoc v.m x.m 0 (ls.take k) y)
      have HYI := Lib.hid hy
      clear hy
      have HBP := Lib.hid (show BlkB wr w.heap.size pb 88 from (HBR.out.block _ HB.out.lt).trans HB.out)
      have c2 := HBP.out.cell 2 E2.out
      have c10 := HBP.out.cell 10 E10.out
      have hpl : w.heap.size < wr.heap.size := HBP.out.lt
      have hpn : w.heap.size ≠ wr.heap.size := by omega
      have HA1 := Lib.hid (HBR.out.alloc HBR.out.size (.cells #[.string ⟨y.id.toArray⟩, .string ⟨y.inst.toArray⟩, .int .i64 y.acq, .int .i64 y.opn, .string ⟨y.q.toArray⟩, .string ⟨y.c.toArray⟩, .string ⟨y.u.toArray⟩] 39))
      have HO1 := Lib.hid (HOW.out.alloc (.cells #[.string ⟨y.id.toArray⟩, .string ⟨y.inst.toArray⟩, .int .i64 y.acq, .int .i64 y.opn, .string ⟨y.q.toArray⟩, .string ⟨y.c.toArray⟩, .string ⟨y.u.toArray⟩] 39))
      rw [← HTK.out] at HKS
      by_cases hi : y.inst = v.m.inst
      · have hi2 : (y.inst == v.m.inst) = true := by simp [hi]
        cases hkp : v.m.keep with
        | false =>
          rw [hkp] at c10
          have HK2 := Lib.hid (show keptL v.m x.m 0 (ls.take (k + 1)) = keptL v.m x.m 0 (ls.take k) by rw [HKS.out]; simp [keptL, hi, hkp])
          clear hi
          go_wp2
          go_roundw
          case rel => exact ⟨k + 1, at_, A1, c1, by omega, by go_num, rfl, by rw [HK2.out], (show _ → _ from fun h => by first | (rw [hkp] at h; cases h) | cases h), (show Own _ _ _ _ _ _ _ by rw [HK2.out]; exact HO1.out), HA1⟩
          case measure => simp [intOf]; omega
        | true =>
          rw [hkp] at c10
          obtain ⟨z, hzd⟩ : ∃ z : Lot, z = { y with c := txtL (val y.c - x.m.getD at_ 0) } := ⟨_, rfl⟩
          have hatk : at_ = (ls.take k).countP (fun z => decide (z.inst = v.m.inst)) := HAT.out hkp
          have HK2 := Lib.hid (show keptL v.m x.m 0 (ls.take (k + 1)) = keptL v.m x.m 0 (ls.take k) ++ [z] by rw [HKS.out, hzd, hatk]; simp [keptL, hi, hkp])
          have HCP := Lib.hid (show (ls.take (k + 1)).countP (fun z => decide (z.inst = v.m.inst)) = at_ + 1 by rw [HTK.out, List.countP_append, hatk]; simp [hi])
          have hlo : at_ < v.on := by
            have h1 : (ls.take (k + 1)).countP (fun z => decide (z.inst = v.m.inst)) ≤ ls.countP (fun z => decide (z.inst = v.m.inst)) := (List.take_sublist _ _).countP_le
            rw [HCP.out, ← HO.out, ← HM.out.len] at h1
            omega
          have hak : at_ ≤ k := by rw [hatk]; exact Nat.le_trans List.countP_le_length (by rw [List.length_take]; omega)
          clear hi hatk
          have i1 : (0 : Int) ≤ (at_ : Int) := by omega
          have i2 : (at_ : Int) < (v.on : Int) := by omega
          have HZ1 := Lib.hid (show lotC7 z = #[.string ⟨y.id.toArray⟩, .string ⟨y.inst.toArray⟩, .int .i64 y.acq, .int .i64 y.opn, .string ⟨y.q.toArray⟩, .string ⟨z.c.toArray⟩, .string ⟨y.u.toArray⟩] by rw [hzd]; rfl)
          have HSB := Lib.hid (fun W (hp : Pow W) => Sub_any y.c (txtL (x.m.getD at_ 0)) W hp (by have := (HL.out y (List.mem_of_getElem? HYI.out)).c; omega) (by have := HZ.out.m at_; omega))
          rw [val_txtL, show txtL (val y.c - x.m.getD at_ 0) = z.c by rw [hzd]] at HSB
          have HPM := Lib.hid (show ∀ X, PlM X n₀ v x old pn pm pf pp → X.cell? ⟨pm, at_, none⟩ = some (.string ⟨(txtL (x.m.getD at_ 0)).toArray⟩) from fun X hm => hm.bm.cell at_ (by rw [partA_get _ _ _ _ hlo, if_pos hlo]))
          clear hzd
          generalize txtL (x.m.getD at_ 0) = tm at *
          have HSS := Lib.hid (show ∀ X, Below wr.heap.size wr X → X.cell? ⟨w.heap.size, 16, none⟩ = some (.slice (some ⟨pm, 0, none⟩) v.on v.on) ∧ X.cell? ⟨pm, at_, none⟩ = some (.string ⟨tm.toArray⟩) from fun X h =>
            ⟨(HBP.out.here h).cell 16 E16.out, HPM.out X (HM.out.below ((HBR.out.trans (h.mono HBR.out.size)).mono (Nat.le_trans HNN.out hwl)))⟩)
          unfold S at HSB
          go_wp2
          have HYB := Lib.hid (show BlkB (wr.alloc (.cells #[.string ⟨y.id.toArray⟩, .string ⟨y.inst.toArray⟩, .int .i64 y.acq, .int .i64 y.opn, .string ⟨y.q.toArray⟩, .string ⟨y.c.toArray⟩, .string ⟨y.u.toArray⟩] 39)) wr.heap.size #[.string ⟨y.id.toArray⟩, .string ⟨y.inst.toArray⟩, .int .i64 y.acq, .int .i64 y.opn, .string ⟨y.q.toArray⟩, .string ⟨y.c.toArray⟩, .string ⟨y.u.toArray⟩] 39 from heap_alloc_new wr _)
          have HBY := Lib.hid ((Below.refl wr.heap.size wr).alloc (Nat.le_refl _) (.cells #[.string ⟨y.id.toArray⟩, .string ⟨y.inst.toArray⟩, .int .i64 y.acq, .int .i64 y.opn, .string ⟨y.q.toArray⟩, .string ⟨y.c.toArray⟩, .string ⟨y.u.toArray⟩] 39))
          have HSY := Lib.hid (show (wr.alloc (.cells #[.string ⟨y.id.toArray⟩, .string ⟨y.inst.toArray⟩, .int .i64 y.acq, .int .i64 y.opn, .string ⟨y.q.toArray⟩, .string ⟨y.c.toArray⟩, .string ⟨y.u.toArray⟩] 39)).heap.size = wr.heap.size + 1 by simp)
          generalize wr.alloc (.cells #[.string ⟨y.id.toArray⟩, .string ⟨y.inst.toArray⟩, .int .i64 y.acq, .int .i64 y.opn, .string ⟨y.q.toArray⟩, .string ⟨y.c.toArray⟩, .string ⟨y.u.toArray⟩] 39) = Wy at *
          clear d0 d1 d2 d3 d4 d5 d6 c2 c10
          obtain ⟨y1, y2⟩ := HSS.out _ HBY.out
          have y5 := HYB.out.cell 5 rfl
          have HPW := Lib.hid ((hp1.out.here HA1.out.drew).pow)
          go_cut [] (fun wc => Hid (BlkB wc wr.heap.size (lotC7 z) 39) ∧ Hid (Below wr.heap.size wr wc) ∧ Hid (Own L7 7 39 wc W1.heap.size (.slice A1 (keptL v.m x.m 0 (ls.take k)).length c1) (keptL v.m x.m 0 (ls.take k))))
          case first =>
            go_region_with
              (go_at_call 11; (refine (HSB.out _ HPW.out).mono ?_); rintro e w1 ⟨rfl, hb1⟩; unfold S; have hg1 : Below wr.heap.size wr w1 := HBY.out.drew.trans (hb1.mono HBY.out.size); have hq1 : BlkB w1 wr.heap.size #[.string ⟨y.id.toArray⟩, .string ⟨y.inst.toArray⟩, .int .i64 y.acq, .int .i64 y.opn, .string ⟨y.q.toArray⟩, .string ⟨y.c.toArray⟩, .string ⟨y.u.toArray⟩] 39 := BlkB.here (w := Wy.drew) HYB.out hb1; have z5 := hq1.cell 5 rfl; have f5 := hq1.frozen 5; have k4 := (fun (u : Value) => HSS.out _ (Below.set5 (u := u) hg1)))
            all_goals
              go_wp2_with fail
              go_meet
              exact ⟨(by
                show BlkB _ _ _ _
                rw [HZ1.out]
                have h := hq1.set 5 (.string ⟨z.c.toArray⟩)
                simpa only [List.setIfInBounds_toArray, List.set_cons_zero, List.set_cons_succ] using h), Below.set5 hg1, HOW.out.below (Below.set5 hg1)⟩
          case rest =>
            obtain ⟨HB5, HW5, HO5⟩ := hcut
            have hq5 : BlkB wc wr.heap.size #[.string ⟨z.id.toArray⟩, .string ⟨z.inst.toArray⟩, .int .i64 z.acq, .int .i64 z.opn, .string ⟨z.q.toArray⟩, .string ⟨z.c.toArray⟩, .string ⟨z.u.toArray⟩] 39 := HB5.out
            have c0 := hq5.cell 0 rfl
            have c1_ := hq5.cell 1 rfl
            have c2 := hq5.cell 2 rfl
            have c3 := hq5.cell 3 rfl
            have c4 := hq5.cell 4 rfl
            have c5 := hq5.cell 5 rfl
            have c6 := hq5.cell 6 rfl
            clear HSB HPM HSS y1 y2 y5 HYB HBY HSY HPW hq5
            have HA1 := Lib.hid (HBR.out.trans (HW5.out.mono HBR.out.size))
            have HA2 := Lib.hid (HA1.out.alloc HA1.out.size (.cells #[.string ⟨z.id.toArray⟩, .string ⟨z.inst.toArray⟩, .int .i64 z.acq, .int .i64 z.opn, .string ⟨z.q.toArray⟩, .string ⟨z.c.toArray⟩, .string ⟨z.u.toArray⟩] 39))
            have HO2 := Lib.hid (HO5.out.alloc (.cells #[.string ⟨z.id.toArray⟩, .string ⟨z.inst.toArray⟩, .int .i64 z.acq, .int .i64 z.opn, .string ⟨z.q.toArray⟩, .string ⟨z.c.toArray⟩, .string ⟨z.u.toArray⟩] 39))
            have HL1 := Lib.hid (lots1 (y := z) (show BlkB (wc.alloc (.cells #[.string ⟨z.id.toArray⟩, .string ⟨z.inst.toArray⟩, .int .i64 z.acq, .int .i64 z.opn, .string ⟨z.q.toArray⟩, .string ⟨z.c.toArray⟩, .string ⟨z.u.toArray⟩] 39)) wc.heap.size (lotC7 z) 39 from heap_alloc_new wc _))
            have HLK := Lib.hid (show (keptL v.m x.m 0 (ls.take k)).length + 1 ≤ 100000000000 from Nat.le_trans (Nat.succ_le_succ (keptL_len v.m x.m 0 (ls.take k))) (by rw [List.length_take]; omega))
            generalize hkl : keptL v.m x.m 0 (ls.take k) = kl at *
            have HKL := Lib.hid hkl
            clear hkl
            go_wp2_with (at_builtin; refine wpList_app _ rfl (.tmp 36) (.tmp 38) _ rfl elemLots L7_len L7_cell (base := W1.heap.size) (.slice A1 _ c1) kl rfl HO2.out _ _ 1 1 [z] rfl HL1.out HLK.out HA2.out.size ?_
                         intro A2 c2 w2 ho2 hg2 _)
            go_roundw
            case rel =>
              have hl : (keptL v.m x.m 0 (ls.take (k + 1))).length = kl.length + 1 := by rw [HK2.out]; simp
              exact ⟨k + 1, at_ + 1, A2, c2, by omega, by go_num, by go_num, by rw [hl], (show _ → _ from fun h => by rw [HCP.out]), (show Own _ _ _ _ _ _ _ by rw [hl, HK2.out]; exact ho2), below_grown HA2.out hg2 HA2.out.size (fun g hg => own_ge HO2.out hg)⟩
            case measure => simp [intOf]; omega
      · have hi2 : (y.inst == v.m.inst) = false := by simp [hi]
        have HK2 := Lib.hid (show keptL v.m x.m 0 (ls.take (k + 1)) = keptL v.m x.m 0 (ls.take k) ++ [y] by rw [HKS.out]; simp [keptL, hi])
        have HCP := Lib.hid (show (ls.take (k + 1)).countP (fun z => decide (z.inst = v.m.inst)) = (ls.take k).countP (fun z => decide (z.inst = v.m.inst)) by rw [HTK.out, List.countP_append]; simp [hi])
        clear hi
        have HA2 := Lib.hid (HA1.out.alloc HA1.out.size (.cells #[.string ⟨y.id.toArray⟩, .string ⟨y.inst.toArray⟩, .int .i64 y.acq, .int .i64 y.opn, .string ⟨y.q.toArray⟩, .string ⟨y.c.toArray⟩, .string ⟨y.u.toArray⟩] 39))
        have HO2 := Lib.hid (HO1.out.alloc (.cells #[.string ⟨y.id.toArray⟩, .string ⟨y.inst.toArray⟩, .int .i64 y.acq, .int .i64 y.opn, .string ⟨y.q.toArray⟩, .string ⟨y.c.toArray⟩, .string ⟨y.u.toArray⟩] 39))
        have HL1 := Lib.hid (lots1 (y := y) (show BlkB ((wr.alloc (.cells #[.string ⟨y.id.toArray⟩, .string ⟨y.inst.toArray⟩, .int .i64 y.acq, .int .i64 y.opn, .string ⟨y.q.toArray⟩, .string ⟨y.c.toArray⟩, .string ⟨y.u.toArray⟩] 39)).alloc (.cells #[.string ⟨y.id.toArray⟩, .string ⟨y.inst.toArray⟩, .int .i64 y.acq, .int .i64 y.opn, .string ⟨y.q.toArray⟩, .string ⟨y.c.toArray⟩, .string ⟨y.u.toArray⟩] 39)) (wr.alloc (.cells #[.string ⟨y.id.toArray⟩, .string ⟨y.inst.toArray⟩, .int .i64 y.acq, .int .i64 y.opn, .string ⟨y.q.toArray⟩, .string ⟨y.c.toArray⟩, .string ⟨y.u.toArray⟩] 39)).heap.size (lotC7 y) 39 from heap_alloc_new (wr.alloc (.cells #[.string ⟨y.id.toArray⟩, .string ⟨y.inst.toArray⟩, .int .i64 y.acq, .int .i64 y.opn, .string ⟨y.q.toArray⟩, .string ⟨y.c.toArray⟩, .string ⟨y.u.toArray⟩] 39)) _))
        rw [show (wr.alloc (.cells #[.string ⟨y.id.toArray⟩, .string ⟨y.inst.toArray⟩, .int .i64 y.acq, .int .i64 y.opn, .string ⟨y.q.toArray⟩, .string ⟨y.c.toArray⟩, .string ⟨y.u.toArray⟩] 39)).heap.size = wr.heap.size + 1 by simp] at HL1
        have HLK := Lib.hid (show (keptL v.m x.m 0 (ls.take k)).length + 1 ≤ 100000000000 from Nat.le_trans (Nat.succ_le_succ (keptL_len v.m x.m 0 (ls.take k))) (by rw [List.length_take]; omega))
        generalize hkl : keptL v.m x.m 0 (ls.take k) = kl at *
        have HKL := Lib.hid hkl
        clear hkl
        go_wp2_with (at_builtin; refine wpList_app _ rfl (.tmp 36) (.tmp 38) _ rfl elemLots L7_len L7_cell (base := W1.heap.size) (.slice A1 _ c1) kl rfl HO2.out _ _ 1 1 [y] rfl HL1.out HLK.out HA2.out.size ?_
                     intro A2 c2 w2 ho2 hg2 _)
        go_roundw
        case rel =>
          have hl : (keptL v.m x.m 0 (ls.take (k + 1))).length = kl.length + 1 := by rw [HK2.out]; simp
          exact ⟨k + 1, at_, A2, c2, by omega, by go_num, rfl, by rw [hl], (show _ → _ from fun h => by rw [HCP.out]; exact HAT.out h), (show Own _ _ _ _ _ _ _ by rw [hl, HK2.out]; exact ho2), below_grown HA2.out hg2 HA2.out.size (fun g hg => own_ge HO2.out hg)⟩
        case measure => simp [intOf]; omega
    · obtain rfl : k = n := by omega
      have HTA := Lib.hid (show ls.take k = ls from List.take_of_length_le (by rw [HLE.out]; exact Nat.le_refl _))
      go_wp2
      rw [HPO.out]
      have ho := HOW.out
      have hwl : w.heap.size ≤ W1.heap.size := by have := HSZ.out; omega
      rw [HTA.out] at ho ⊢
      refine ⟨A1, c1, ?_, ho.base_ hwl, HBW.out.trans (HBR.out.mono hwl)⟩
      rfl
end Go.Proofs.YtbnfgbcgpbdpcaaGreatDoor
