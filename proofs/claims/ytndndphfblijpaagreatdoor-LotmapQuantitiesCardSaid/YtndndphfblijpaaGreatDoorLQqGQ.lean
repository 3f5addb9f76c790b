/- The walk of the law LotmapQuantities. -/
import Derived.Test.YtndndphfblijpaaGreatDoorQGQ27
import Derived.Test.YtndndphfblijpaaGreatDoorQGQ21
import Derived.Test.YtndndphfblijpaaGreatDoorQGQ28
import Derived.Deep.RegionHeld3
import Derived.Deep.DrawnRows
import Derived.Deep.DeepCutAuto
namespace Go.Proofs.YtndndphfblijpaaGreatDoor
open Go.RowKit Go.Shelf
attribute [local go_sem ↓] Go.wp_at_zero Go.wp_at_succ

theorem Sl.step6 {w : World} {B : Nat} {A : Option Addr} {n : Nat} {xs : List Stp} {i : Nat} (h : Sts w B A n xs) (hi : i < n) :
    ∃ b off x, A = some ⟨b, off, none⟩ ∧ b < B ∧ xs[i]? = some x ∧ w.cell? ⟨b, off + i * 6, none⟩ = some (.string ⟨x.cause.toArray⟩) ∧ w.cell? ⟨b, off + i * 6 + 1, none⟩ = some (.string ⟨x.src.toArray⟩) ∧ w.cell? ⟨b, off + i * 6 + 2, none⟩ = some (.string ⟨x.dst.toArray⟩) ∧
      w.cell? ⟨b, off + i * 6 + 3, none⟩ = some (.string ⟨x.q.toArray⟩) ∧ w.cell? ⟨b, off + i * 6 + 4, none⟩ = some (.string ⟨x.made.toArray⟩) ∧ w.cell? ⟨b, off + i * 6 + 5, none⟩ = some (.string ⟨x.cost.toArray⟩) := by
  obtain ⟨b, off, x, hA, hb, hx, hc⟩ := h.at_ hi
  exact ⟨b, off, x, hA, hb, hx, hc 0 _ rfl, hc 1 _ rfl, hc 2 _ rfl, hc 3 _ rfl, hc 4 _ rfl, hc 5 _ rfl⟩
theorem newOf_none {ls : List Lot} {m : Mp} (h : (mapL ls m).2 = 0) (ho : lotsOf ls m.inst = []) : newOf ls (mapL ls m).1.lots = [] := by
  rcases mapL_case ls m with ⟨e, he, h'⟩ | ⟨hl, hm, ho', h'⟩ | ⟨A, B, hM, h'⟩
  · rw [h'] at h; exact absurd h he
  · rw [h']; exact new_self ls
  · exact absurd ho hM.old
theorem madeK {xs : List Stp} {k : Nat} {x : Stp} (id : List UInt8) (h : xs[k]? = some x) : madeOf (xs.take (k + 1)) id = madeOf (xs.take k) id + if x.src = id then val x.made else 0 := by
  obtain ⟨hk, rfl⟩ := List.getElem?_eq_some_iff.1 h
  unfold madeOf
  rw [List.take_succ_eq_append_getElem hk, stpSum_append]
  congr 1
  unfold stpSum
  by_cases h : xs[k].src = id
  · rw [if_pos h, List.filter_cons_of_pos (by simpa using h)]; simp
  · rw [if_neg h, List.filter_cons_of_neg (by simpa using h)]; rfl
theorem made_len {xs : List Stp} (h : ∀ s ∈ xs, s.made.length ≤ 94) (hn : xs.length ≤ 2000) (k : Nat) (id : List UInt8) : (txtL (madeOf (xs.take k) id)).length ≤ 100 := by
  have e : madeOf (xs.take k) id = sumV (((xs.take k).filter (fun s => decide (s.src = id))).map (·.made)) := (sumV_mapq _ _).symm
  have hl : (((xs.take k).filter (fun s => decide (s.src = id))).map (·.made)).length ≤ 2000 := by
    rw [List.length_map]
    have h1 := List.length_filter_le (fun s : Stp => decide (s.src = id)) (xs.take k)
    rw [List.length_take] at h1
    omega
  have h1 := sumV_take_len (ws := ((xs.take k).filter (fun s => decide (s.src = id))).map (·.made)) (L := 94) (fun x hx => by
    obtain ⟨s, hs, rfl⟩ := List.mem_map.1 hx
    exact h s (List.mem_of_mem_take (List.mem_filter.1 hs).1)) (by omega) (((xs.take k).filter (fun s => decide (s.src = id))).map (·.made)).length
  rw [List.take_length] at h1
  rw [e]
  omega
theorem cmpR_two {a b : Rat} (h : ¬ cmpR a b < 0) : cmpR a b = 0 ∨ cmpR a b = 1 := by
  unfold cmpR at h ⊢
  split
  · rename_i h1
    rw [if_pos h1] at h
    omega
  · split
    · exact .inr rfl
    · exact .inl rfl
set_option maxRecDepth 100000 in
set_option maxHeartbeats 8000000 in
theorem quantities_walk (A : Option Addr) (n c : Nat) (ls : List Lot) (m : Mp) (w : World) (hp : Env w) (hs : Lots w w.heap.size A n ls) (hnil : (A = none ∧ c = 0) ∨ ∃ a, A = some a) (hn : n ≤ 9223372036854775807) (hi : ∀ y ∈ ls, y.I)
    (hm : m.Max) (hd : -9223372036854775808 ≤ m.day ∧ m.day ≤ 9223372036854775807) :
    Calls Tryz.prog 5 #[.slice A n c, MpV m] w fun e w' => e = .returned (.bool true) ∧ Below w.heap.size w w' := by
  have HGR := Lib.hid (fun W (hb : Below w.heap.size w W) => lwGreat_any A n c ls m W (hs.here hb) hn hm)
  have HAW := Lib.hid (fun W (hb : Below w.heap.size w W) => lwAwake_any W (hp.here hb))
  have HK0 := Lib.hid (show Kp w [(w.heap.size, #[.string ⟨m.cause.toArray⟩, .int .i64 m.day, .string ⟨m.inst.toArray⟩, .string ⟨m.other.toArray⟩, .string ⟨m.ratio.n.toArray⟩, .string ⟨m.ratio.d.toArray⟩, .string ⟨m.share.n.toArray⟩, .string ⟨m.share.d.toArray⟩, .string ⟨m.price.n.toArray⟩, .string ⟨m.price.d.toArray⟩, .bool m.keep], 28)] (w.alloc (.cells #[.string ⟨m.cause.toArray⟩, .int .i64 m.day, .string ⟨m.inst.toArray⟩, .string ⟨m.other.toArray⟩, .string ⟨m.ratio.n.toArray⟩, .string ⟨m.ratio.d.toArray⟩, .string ⟨m.share.n.toArray⟩, .string ⟨m.share.d.toArray⟩, .string ⟨m.price.n.toArray⟩, .string ⟨m.price.d.toArray⟩, .bool m.keep] 28)) from (Kp.start hp).new w.heap.size rfl _ _)
  obtain ⟨z0, z1, z2, z3, z4, z5, z6, z7, z8, z9, z10⟩ := mp11 HK0.out (m := m) (i := 0) rfl
  cases hg : (grtL ls || longM m) with
  | true =>
    rw [hg] at HGR
    clear hp hs hnil hn hi hm hd hg
    unfold MpV at *
    rw [mpA_eq] at *
    go_enter Tryz.func5, Tryz.ntmps5
    go_wp2_with fail
    generalize w.alloc (.cells #[.string ⟨m.cause.toArray⟩, .int .i64 m.day, .string ⟨m.inst.toArray⟩, .string ⟨m.other.toArray⟩, .string ⟨m.ratio.n.toArray⟩, .string ⟨m.ratio.d.toArray⟩, .string ⟨m.share.n.toArray⟩, .string ⟨m.share.d.toArray⟩, .string ⟨m.price.n.toArray⟩, .string ⟨m.price.d.toArray⟩, .bool m.keep] 28) = W0 at *
    refine (HGR.out _ HK0.out.bl).mono ?_
    rintro e w1 ⟨rfl, hb1⟩
    have HK1 := Lib.hid (HK0.out.here hb1)
    clear z0 z1 z2 z3 z4 z5 z6 z7 z8 z9 z10 hb1
    go_wp2_with fail
    refine (HAW.out _ HK1.out.bl).mono ?_
    rintro e w2 ⟨rfl, hb2⟩
    go_wp2_with fail
    first | go_ret | skip
    exact ⟨rfl, (HK1.out.here hb2).bl⟩
  | false =>
    rw [hg] at HGR
    simp only [Bool.or_eq_false_iff] at hg
    obtain ⟨hn2, hsz⟩ := grtL_no hg.1 hi
    obtain ⟨hr, hsh, hpr, hmz⟩ := longM_no hg.2 hd.1 hd.2
    have hn1 : n ≤ 1002 := by rw [hs.1]; exact hn2
    have hmz5 : m.Sz 5000 ∨ m.Bad := hmz.imp (fun h => h.more (by omega)) id
    have hls5 : ∀ y ∈ ls, y.Sz 50000 := fun y hy => (hsz y hy).1.more (by omega)
    have hq13 : ∀ y ∈ ls, y.q.length ≤ 13 := fun y hy => (hsz y hy).2.1
    have hc13 : ∀ y ∈ ls, y.c.length ≤ 13 := fun y hy => (hsz y hy).2.2
    have HNU := Lib.hid (fun W (hb : Below w.heap.size w W) => numbers_any A n c ls m W 13 (hp.here hb) (hs.here hb) hnil (by omega) hls5 hmz5 (by decide) (by decide) hq13 hc13 (hr.more (by omega)) (hsh.more (by omega)) (hpr.more (by omega)))
    have HLEN := Lib.hid (mapL_len (m := m) (L := 13) (by decide) (by decide) (fun y hy => ⟨hq13 y hy, hc13 y hy⟩) hls5 (hr.more (by omega)) (hpr.more (by omega)))
    have HNO := Lib.hid (mapL_no (ls := ls) (m := m)); have HFR := Lib.hid (And.intro hr hpr)
    have HNL := Lib.hid (show numL ls m = if (mapL ls m).2 = 0 then (lotsOf ls m.inst, newOf ls (mapL ls m).1.lots, (mapL ls m).1, true) else ([], [], (mapL ls m).1, false) from rfl)
    have HP := Lib.hid hp; have HS := Lib.hid hs; have HN1 := Lib.hid hn1
    have HQC := Lib.hid (And.intro hq13 hc13)
    clear hp hs hnil hn hi hm hd hg hn2 hsz hr hsh hpr hn1 hmz hmz5 hls5 hq13 hc13
    unfold MpV at *
    rw [mpA_eq] at *
    go_enter Tryz.func5, Tryz.ntmps5
    go_wp2_with fail
    generalize w.alloc (.cells #[.string ⟨m.cause.toArray⟩, .int .i64 m.day, .string ⟨m.inst.toArray⟩, .string ⟨m.other.toArray⟩, .string ⟨m.ratio.n.toArray⟩, .string ⟨m.ratio.d.toArray⟩, .string ⟨m.share.n.toArray⟩, .string ⟨m.share.d.toArray⟩, .string ⟨m.price.n.toArray⟩, .string ⟨m.price.d.toArray⟩, .bool m.keep] 28) = W0 at *
    refine (HGR.out _ HK0.out.bl).mono ?_
    rintro e w1 ⟨rfl, hb1⟩
    have HK1 := Lib.hid (HK0.out.here hb1)
    clear z0 z1 z2 z3 z4 z5 z6 z7 z8 z9 z10 hb1 HGR HK0
    obtain ⟨z0, z1, z2, z3, z4, z5, z6, z7, z8, z9, z10⟩ := mp11 HK1.out (m := m) (i := 0) rfl
    go_wp2_with fail
    refine (HNU.out _ HK1.out.bl).mono ?_
    rintro e w2 ⟨Ao, co, Am, cm, A1, c1, Ag, cg, As, cs, rfl, oO, oM, oL, oG, oS, hb2⟩
    clear z0 z1 z2 z3 z4 z5 z6 z7 z8 z9 z10 HNU
    by_cases h0 : (mapL ls m).2 = 0
    · rw [HNL.out, if_pos h0] at oO oM oL oG oS ⊢
      by_cases ho : lotsOf ls m.inst = []
      · have hno := newOf_none h0 ho
        rw [ho, hno] at oO oM oL oG oS ⊢
        dsimp only
        rw [show ([] : List Lot).length = 0 from rfl]
        have HK2 := Lib.hid (HK1.out.here hb2)
        have HK3 := Lib.hid (HK2.out.new w2.heap.size rfl #[.slice A1 (mapL ls m).1.lots.length c1, .slice Ag (mapL ls m).1.gains.length cg, .slice As (mapL ls m).1.steps.length cs, .slice none 0 0] 35)
        generalize (mapL ls m).1.lots = lots at *
        generalize (mapL ls m).1.gains = gains at *
        generalize (mapL ls m).1.steps = steps at *
        clear oO oM oL oG oS hb2 h0 ho hno HLEN HNO HNL
        go_wp2_with fail
        refine (HAW.out _ HK3.out.bl).mono ?_
        rintro e w4 ⟨rfl, hb4⟩
        go_wp2_with fail
        first | go_ret | skip
        exact ⟨rfl, (HK3.out.here hb4).bl⟩
      · obtain ⟨_, _, q3, q4, q5, q6⟩ := HLEN.out
        obtain ⟨T0, Tl, ro, r0, fnw, Ul, hln, fok, fsum, fair, fpl⟩ := quant_facts h0 ho HQC.out.1 HQC.out.2 HFR.out.1 HFR.out.2
        have hol : (lotsOf ls m.inst).length ≤ 1000 := Nat.le_trans (lotsOf_len ls m.inst) hln
        have hol0 : (lotsOf ls m.inst).length ≠ 0 := fun h => ho (List.length_eq_zero_iff.1 h)
        have hnl : (newOf ls (mapL ls m).1.lots).length ≤ 1000 := Nat.le_trans (List.length_filter_le _ _) q4
        have hoq : ∀ y ∈ lotsOf ls m.inst, y.q.length ≤ 13 := fun y hy => HQC.out.1 y (List.mem_filter.1 hy).1
        have hnq : ∀ y ∈ newOf ls (mapL ls m).1.lots, y.q.length ≤ 50000 := fun y hy => by
          obtain ⟨q1, _⟩ := HLEN.out
          have := (q1 y (List.mem_filter.1 hy).1).1; omega
        have hfq : (((sumQ (lotsOf ls m.inst) : Int) : Rat) * m.ratio.rat) = ((val (txtL (sumQ (lotsOf ls m.inst))) : Int) : Rat) * m.ratio.rat := by rw [val_txtL]
        have HPT := Lib.hid (fun W hW => parts_ok (txtL (sumQ (lotsOf ls m.inst))) m.ratio W hW (by rw [val_txtL]) (by omega) ro (HFR.out.1.more (by omega)) (by rw [val_txtL]; exact T0) r0)
        rw [val_txtL] at HPT
        have HPR := Lib.hid (part_range (((sumQ (lotsOf ls m.inst) : Int) : Rat) * m.ratio.rat))
        have hTn : (sumQ (lotsOf ls m.inst)).natAbs < 10 ^ 18 := by
          have h := val_lt' Tl
          rw [val_txtL] at h
          exact h
        have hqb : RB 100 (((sumQ (lotsOf ls m.inst) : Int) : Rat) * m.ratio.rat) := (rb_mulq (rb_int hTn (by omega)) ((sz_rb HFR.out.1 (by omega)).more (show 10 ≤ 18 by omega))).more (by omega)
        have hrz : (frOf (((sumQ (lotsOf ls m.inst) : Int) : Rat) * m.ratio.rat - ((flo (((sumQ (lotsOf ls m.inst) : Int) : Rat) * m.ratio.rat) : Int) : Rat))).Sz 20000 := (frOf_sz (rb_part hqb)).more (by omega)
        have hfz : ∀ k : Int, (txtL k).length ≤ 100 → (frOf (k : Rat)).Sz 20000 := fun k hk => by rw [frOf_int]; exact ⟨by show (txtL k).length ≤ _; omega, by simp⟩
        have HC0 := Lib.hid (fun W hW => fCompare_any (frOf (((sumQ (lotsOf ls m.inst) : Int) : Rat) * m.ratio.rat - ((flo (((sumQ (lotsOf ls m.inst) : Int) : Rat) * m.ratio.rat) : Int) : Rat))) ⟨[], []⟩ W hW hrz ⟨by simp, by simp⟩)
        rw [rat_frOf, show (⟨[], []⟩ : Fr).rat = 0 from rat_zero] at HC0
        have HO1 := Lib.hid (fun W (hW : Pow W) => (show Calls Tryz.prog 23 #[.string ⟨#[49]⟩] W (FracPost (frOf ((val [49] : Int) : Rat)) W) from fOf_any [49] W hW (by simp)))
        have HC1 := Lib.hid (fun W hW => fCompare_any (frOf (((sumQ (lotsOf ls m.inst) : Int) : Rat) * m.ratio.rat - ((flo (((sumQ (lotsOf ls m.inst) : Int) : Rat) * m.ratio.rat) : Int) : Rat))) (frOf ((val [49] : Int) : Rat)) W hW hrz (hfz _ (Nat.le_trans (txtL_val_lenF (x := [49]) (L := 1) (by simp)) (by omega))))
        rw [rat_frOf, rat_frOf, show ((val [49] : Int) : Rat) = 1 by rw [show val [49] = 1 from by decide]; rfl] at HC1
        rw [show ((val [49] : Int) : Rat) = 1 by rw [show val [49] = 1 from by decide]; rfl] at HO1
        have HOU := Lib.hid (fun W hW => fOf_any (txtL (flo (((sumQ (lotsOf ls m.inst) : Int) : Rat) * m.ratio.rat))) W hW (by omega))
        have HOT := Lib.hid (fun W hW => fOf_any (txtL (sumQ (lotsOf ls m.inst))) W hW (by omega))
        rw [val_txtL] at HOU HOT
        have HAD := Lib.hid (fun W hW => fAdd_any (frOf ((flo (((sumQ (lotsOf ls m.inst) : Int) : Rat) * m.ratio.rat) : Int) : Rat)) (frOf (((sumQ (lotsOf ls m.inst) : Int) : Rat) * m.ratio.rat - ((flo (((sumQ (lotsOf ls m.inst) : Int) : Rat) * m.ratio.rat) : Int) : Rat))) W hW (hfz _ Ul) hrz)
        rw [rat_frOf, rat_frOf, show ((flo (((sumQ (lotsOf ls m.inst) : Int) : Rat) * m.ratio.rat) : Int) : Rat) + (((sumQ (lotsOf ls m.inst) : Int) : Rat) * m.ratio.rat - ((flo (((sumQ (lotsOf ls m.inst) : Int) : Rat) * m.ratio.rat) : Int) : Rat)) = ((sumQ (lotsOf ls m.inst) : Int) : Rat) * m.ratio.rat by rw [Rat.sub_eq_add_neg, Rat.add_comm, Rat.add_assoc, Rat.neg_add_cancel, Rat.add_zero]] at HAD
        have HMU := Lib.hid (fun W hW => fMul_any (frOf ((sumQ (lotsOf ls m.inst) : Int) : Rat)) m.ratio W hW (hfz _ (by omega)) (HFR.out.1.more (by omega)))
        rw [rat_frOf] at HMU
        have HSO := Lib.hid (fun W A c (hW : Env W) (ho : Lots W W.heap.size A (lotsOf ls m.inst).length (lotsOf ls m.inst)) => lwSumQ_any A (lotsOf ls m.inst).length c (lotsOf ls m.inst) W hW ho (fun y hy => by have := hoq y hy; omega) (by omega))
        have HSN := Lib.hid (fun W A c (hW : Env W) (ho : Lots W W.heap.size A (newOf ls (mapL ls m).1.lots).length (newOf ls (mapL ls m).1.lots)) => lwSumQ_any A (newOf ls (mapL ls m).1.lots).length c (newOf ls (mapL ls m).1.lots) W hW ho hnq (by omega))
        rw [show selS (·.q) (lotsOf ls m.inst) = sumQ (lotsOf ls m.inst) from rfl] at HSO
        rw [show selS (·.q) (newOf ls (mapL ls m).1.lots) = sumQ (newOf ls (mapL ls m).1.lots) from rfl, fnw] at HSN
        have HCK := Lib.hid (fun W A1 c1 A2 c2 (hW : Env W) h1 h2 => aFair_ok (txtL (flo (((sumQ (lotsOf ls m.inst) : Int) : Rat) * m.ratio.rat))) A1 (lotsOf ls m.inst).length c1 ((lotsOf ls m.inst).map (·.q)) A2 c2 ((lotsOf ls m.inst).map (fun y => txtL (madeOf (mapL ls m).1.steps y.id))) W hW h1 h2 (by omega) (fun x hx => by
          obtain ⟨y, hy, rfl⟩ := List.mem_map.1 hx
          have := hoq y hy; omega) fpl hol fok (fun x hx => by
          obtain ⟨y, _, rfl⟩ := List.mem_map.1 hx
          exact canB_txtL _) (by rw [fsum]) fair)
        have HS3 := Lib.hid (And.intro q3 q6); have HLO := Lib.hid hol
        dsimp only at oO oM oL oG oS ⊢
        clear HNO HNL HLEN h0 ho q3 q4 q5 q6 T0 Tl ro r0 fnw Ul hln fok fsum fair fpl hnl hoq hnq hfq hqb hrz hfz HQC hTn hol
        generalize newOf ls (mapL ls m).1.lots = nw at *
        generalize lotsOf ls m.inst = old at *
        generalize (mapL ls m).1.lots = lots at *
        generalize (mapL ls m).1.gains = gains at *
        generalize (mapL ls m).1.steps = steps at *
        unfold StrPost at HSO HSN
        unfold PartsPost at HPT
        unfold CmpIPost at HC0 HC1 HCK
        unfold FracPost at HO1 HOU HOT HAD HMU
        unfold FrV S at HPT HC0 HC1 HO1 HOU HOT HAD HMU
        unfold S at HSO HSN HCK
        generalize ((sumQ old : Int) : Rat) * m.ratio.rat = q at *
        generalize txtL (sumQ old) = tT at *
        generalize frOf ((sumQ old : Int) : Rat) = fT at *
        generalize frOf (q - ((flo q : Int) : Rat)) = fr at *
        have HZ := Lib.hid (show cmpR (q - ((flo q : Int) : Rat)) 0 = 0 ∨ cmpR (q - ((flo q : Int) : Rat)) 0 = 1 from cmpR_two HPR.out.1)
        rw [cmpR_neg (show cmpR (q - ((flo q : Int) : Rat)) 1 < 0 by have := HPR.out.2; omega)] at HC1
        clear HPR
        generalize cmpR (q - ((flo q : Int) : Rat)) 0 = z0 at *
        generalize frOf ((flo q : Int) : Rat) = fU at *
        generalize frOf 1 = f1 at *
        generalize frOf q = fq at *
        generalize txtL (flo q) = tU at *
        have HK2 := Lib.hid (HK1.out.here hb2)
        have HK3 := Lib.hid (HK2.out.new w2.heap.size rfl #[.slice A1 lots.length c1, .slice Ag gains.length cg, .slice As steps.length cs, .slice none 0 0] 35)
        have hB1 := HK1.out.bl.size
        have HOO := Lib.hid ((oO.base_ hB1).alloc (.cells #[.slice A1 lots.length c1, .slice Ag gains.length cg, .slice As steps.length cs, .slice none 0 0] 35)); have HOM := Lib.hid ((oM.base_ hB1).alloc (.cells #[.slice A1 lots.length c1, .slice Ag gains.length cg, .slice As steps.length cs, .slice none 0 0] 35)); have HOS := Lib.hid ((oS.base_ hB1).alloc (.cells #[.slice A1 lots.length c1, .slice Ag gains.length cg, .slice As steps.length cs, .slice none 0 0] 35))
        clear oO oM oL oG oS hb2 hB1
        go_upto_region 6 with (fail)
        generalize (w2.alloc (.cells #[.slice A1 lots.length c1, .slice Ag gains.length cg, .slice As steps.length cs, .slice none 0 0] 35)) = W3 at *
        have H0 := Lib.hid (Kp.start HK3.out.pw)
        have HOX := Lib.hid (show ∀ X bs, Kp W3 bs X → Lots X X.heap.size Ao old.length old from fun X bs h => (HOO.out.below h.bl).sl L7_len)
        have HMX := Lib.hid (show ∀ X bs, Kp W3 bs X → Lots X X.heap.size Am nw.length nw from fun X bs h => (HOM.out.below h.bl).sl L7_len)
        have HRT := Lib.hid (show ∀ X bs, Kp W3 bs X → X.cell? ⟨w.heap.size, 4, none⟩ = some (.string ⟨m.ratio.n.toArray⟩) ∧ X.cell? ⟨w.heap.size, 5, none⟩ = some (.string ⟨m.ratio.d.toArray⟩) from fun X bs h => ⟨(HK3.out.here h.bl).c 1 4 rfl rfl, (HK3.out.here h.bl).c 1 5 rfl rfl⟩)
        have HPA := Lib.hid ((H0.out.new W3.heap.size rfl #[.string ⟨#[]⟩, .string ⟨#[]⟩] 26).drew)
        go_cut [9, 10, 11] (fun s p v wc => s = .string ⟨tU.toArray⟩ ∧ v = .int .i64 0 ∧ ∃ P10, p = .pointer (some ⟨P10, 0, none⟩) ∧ Hid (Kp W3 [(P10, #[.string ⟨fr.n.toArray⟩, .string ⟨fr.d.toArray⟩], 26)] wc))
        case first =>
          obtain ⟨s00, s01⟩ := HRT.out _ _ H0.out
          have s0 := HRT.out _ _ H0.out.drew
          have s0a := HRT.out _ _ HPA.out
          go_region_held3 (fun X => X.cell? ⟨w.heap.size, 4, none⟩ = some (.string ⟨m.ratio.n.toArray⟩) ∧ X.cell? ⟨w.heap.size, 5, none⟩ = some (.string ⟨m.ratio.d.toArray⟩))
            (first
              | with_reducible exact s4
              | with_reducible exact s2a
              | with_reducible exact s2
              | with_reducible exact s1a
              | with_reducible exact s1
              | with_reducible exact s0a
              | with_reducible exact s0
              | go_keep)
            (first
              | (go_at_call 11; first
                  | (refine (HSO.out _ _ _ H0.out.drew.pw (HOX.out _ _ H0.out.drew)).mono ?_; rintro e y1 ⟨rfl, hy⟩
                     have g1 := H0.out.drew.here hy
                     have s1 := HRT.out _ _ g1
                     have g1a := g1.new y1.heap.size rfl #[.string ⟨#[]⟩, .string ⟨#[]⟩] 26
                     have s1a := HRT.out _ _ g1a)
                  | (refine (HSO.out _ _ _ HPA.out.pw (HOX.out _ _ HPA.out)).mono ?_; rintro e y1 ⟨rfl, hy⟩
                     have g1 := HPA.out.here hy
                     have s1 := HRT.out _ _ g1))
              | (go_at_call 19; first
                  | (refine (HPT.out _ g1.pw).mono ?_; rintro e y2 ⟨rfl, hy⟩
                     have g2 := g1.here hy)
                  | (refine (HPT.out _ g1a.pw).mono ?_; rintro e y2 ⟨rfl, hy⟩
                     have g2 := g1a.here hy)
                 first
                  | (have s2 := HRT.out _ [] g2
                     have g2a := g2.new y2.heap.size rfl #[.string ⟨#[]⟩, .string ⟨#[]⟩] 26
                     have s2a := HRT.out _ _ g2a
                     have g4 := (g2a.set 0 0 rfl (.string ⟨fr.n.toArray⟩)).set 0 1 rfl (.string ⟨fr.d.toArray⟩)
                     have s4 := HRT.out _ _ g4)
                  | (have s2 := HRT.out _ _ g2
                     have n0 := g2.c 0 0 rfl rfl; have n1 := g2.c 0 1 rfl rfl
                     have v0 := g2.f 0 0 rfl; have v1 := g2.f 0 1 rfl
                     have g4 := (g2.set 0 0 rfl (.string ⟨fr.n.toArray⟩)).set 0 1 rfl (.string ⟨fr.d.toArray⟩)
                     have s4 := HRT.out _ _ g4)))
          all_goals
            go_wp2_with fail
            go_meet
            first
              | exact ⟨rfl, rfl, _, rfl, g4⟩
              | exact ⟨rfl, rfl, _, rfl, g2.new _ rfl _ _⟩
        case rest =>
        obtain ⟨rfl, rfl, P10, rfl, H1⟩ := hcut
        rename_i wq
        clear H0 HPA HRT HPT
        have hUU : (tU != tU) = false := by simp
        go_upto_region 7 with (fail)
        have HR := Lib.hid (show ∀ X, Kp W3 [(P10, #[.string ⟨fr.n.toArray⟩, .string ⟨fr.d.toArray⟩], 26)] X → X.cell? ⟨P10, 0, none⟩ = some (.string ⟨fr.n.toArray⟩) ∧ X.cell? ⟨P10, 1, none⟩ = some (.string ⟨fr.d.toArray⟩) from fun X h => ⟨h.c 0 0 rfl rfl, h.c 0 1 rfl rfl⟩)
        go_cut [81] (fun b wc => b = .bool false ∧ Hid (Kp W3 [(P10, #[.string ⟨fr.n.toArray⟩, .string ⟨fr.d.toArray⟩], 26)] wc))
        case first =>
          have g0 := H1.out.drew
          obtain ⟨s00, s01⟩ := HR.out _ H1.out
          have s0 := HR.out _ g0
          rcases HZ.out with h | h
          all_goals
            rw [h] at HC0
            go_region_held3 (fun X => X.cell? ⟨P10, 0, none⟩ = some (.string ⟨fr.n.toArray⟩) ∧ X.cell? ⟨P10, 1, none⟩ = some (.string ⟨fr.d.toArray⟩))
              (first
                | with_reducible exact s4
                | with_reducible exact s3
                | with_reducible exact s2
                | with_reducible exact s1
                | with_reducible exact s0
                | go_keep)
              (first
                | (go_at_call 11; refine (HSN.out _ _ _ g0.pw (HMX.out _ _ g0)).mono ?_; rintro e y1 ⟨rfl, hy⟩
                   have g1 := g0.here hy
                   have s1 := HR.out _ g1)
                | (go_at_call 23; refine (HO1.out _ g2.po).mono ?_; rintro e y3 ⟨rfl, hy⟩
                   have g3 := g2.here hy
                   have s3 := HR.out _ g3)
                | (go_at_call_of 22 (Value.agg #[Value.string ⟨f1.n.toArray⟩, Value.string ⟨f1.d.toArray⟩]); refine (HC1.out _ g3.po).mono ?_; rintro e y4 ⟨rfl, hy⟩
                   have g4 := g3.here hy
                   have s4 := HR.out _ g4)
                | (go_at_call 22; refine (HC0.out _ g1.po).mono ?_; rintro e y2 ⟨rfl, hy⟩
                   have g2 := g1.here hy
                   have s2 := HR.out _ g2))
            all_goals
              go_wp2_with fail
              go_meet
              exact ⟨rfl, g4⟩
        case rest =>
        obtain ⟨rfl, H2⟩ := hcut
        clear H1 HR HC0 HC1 HO1 HSN HMX HZ hUU
        have hfn : (fq.n == fq.n) = true := by simp
        have hfd : (fq.d == fq.d) = true := by simp
        go_upto_region 9 with (fail)
        have HR := Lib.hid (show ∀ X, Kp W3 [(P10, #[.string ⟨fr.n.toArray⟩, .string ⟨fr.d.toArray⟩], 26)] X → X.cell? ⟨P10, 0, none⟩ = some (.string ⟨fr.n.toArray⟩) ∧ X.cell? ⟨P10, 1, none⟩ = some (.string ⟨fr.d.toArray⟩) ∧ X.cell? ⟨w.heap.size, 4, none⟩ = some (.string ⟨m.ratio.n.toArray⟩) ∧ X.cell? ⟨w.heap.size, 5, none⟩ = some (.string ⟨m.ratio.d.toArray⟩) from fun X h => ⟨h.c 0 0 rfl rfl, h.c 0 1 rfl rfl, (HK3.out.here h.bl).c 1 4 rfl rfl, (HK3.out.here h.bl).c 1 5 rfl rfl⟩)
        go_cut [92] (fun b wc => b = .bool false ∧ Hid (Kp W3 [(P10, #[.string ⟨fr.n.toArray⟩, .string ⟨fr.d.toArray⟩], 26)] wc))
        case first =>
          have g0 := H2.out.drew
          obtain ⟨s00, s01, s02, s03⟩ := HR.out _ H2.out
          have s0 := HR.out _ g0
          go_region_held3 (fun X => X.cell? ⟨P10, 0, none⟩ = some (.string ⟨fr.n.toArray⟩) ∧ X.cell? ⟨P10, 1, none⟩ = some (.string ⟨fr.d.toArray⟩) ∧ X.cell? ⟨w.heap.size, 4, none⟩ = some (.string ⟨m.ratio.n.toArray⟩) ∧ X.cell? ⟨w.heap.size, 5, none⟩ = some (.string ⟨m.ratio.d.toArray⟩))
            (first
              | with_reducible exact s5
              | with_reducible exact s4
              | with_reducible exact s3
              | with_reducible exact s2
              | with_reducible exact s1
              | with_reducible exact s0
              | go_keep)
            (first
              | (go_at_call_of 23 (Value.string ⟨tU.toArray⟩); first
                | (refine (HOU.out _ g4.po).mono ?_; rintro e y5 ⟨rfl, hy⟩
                   have g5 := g4.here hy
                   have s5 := HR.out _ g5)
                | (refine (HOU.out _ g3.po).mono ?_; rintro e y4 ⟨rfl, hy⟩
                   have g4 := g3.here hy
                   have s4 := HR.out _ g4)
                | (refine (HOU.out _ g2.po).mono ?_; rintro e y3 ⟨rfl, hy⟩
                   have g3 := g2.here hy
                   have s3 := HR.out _ g3)
                | (refine (HOU.out _ g1.po).mono ?_; rintro e y2 ⟨rfl, hy⟩
                   have g2 := g1.here hy
                   have s2 := HR.out _ g2)
                | (refine (HOU.out _ g0.po).mono ?_; rintro e y1 ⟨rfl, hy⟩
                   have g1 := g0.here hy
                   have s1 := HR.out _ g1))
              | (go_at_call 24; first
                | (refine (HAD.out _ g4.po).mono ?_; rintro e y5 ⟨rfl, hy⟩
                   have g5 := g4.here hy
                   have s5 := HR.out _ g5)
                | (refine (HAD.out _ g3.po).mono ?_; rintro e y4 ⟨rfl, hy⟩
                   have g4 := g3.here hy
                   have s4 := HR.out _ g4)
                | (refine (HAD.out _ g2.po).mono ?_; rintro e y3 ⟨rfl, hy⟩
                   have g3 := g2.here hy
                   have s3 := HR.out _ g3)
                | (refine (HAD.out _ g1.po).mono ?_; rintro e y2 ⟨rfl, hy⟩
                   have g2 := g1.here hy
                   have s2 := HR.out _ g2)
                | (refine (HAD.out _ g0.po).mono ?_; rintro e y1 ⟨rfl, hy⟩
                   have g1 := g0.here hy
                   have s1 := HR.out _ g1))
              | (go_at_call 11; first
                | (refine (HSO.out _ _ _ g4.pw (HOX.out _ _ g4)).mono ?_; rintro e y5 ⟨rfl, hy⟩
                   have g5 := g4.here hy
                   have s5 := HR.out _ g5)
                | (refine (HSO.out _ _ _ g3.pw (HOX.out _ _ g3)).mono ?_; rintro e y4 ⟨rfl, hy⟩
                   have g4 := g3.here hy
                   have s4 := HR.out _ g4)
                | (refine (HSO.out _ _ _ g2.pw (HOX.out _ _ g2)).mono ?_; rintro e y3 ⟨rfl, hy⟩
                   have g3 := g2.here hy
                   have s3 := HR.out _ g3)
                | (refine (HSO.out _ _ _ g1.pw (HOX.out _ _ g1)).mono ?_; rintro e y2 ⟨rfl, hy⟩
                   have g2 := g1.here hy
                   have s2 := HR.out _ g2)
                | (refine (HSO.out _ _ _ g0.pw (HOX.out _ _ g0)).mono ?_; rintro e y1 ⟨rfl, hy⟩
                   have g1 := g0.here hy
                   have s1 := HR.out _ g1))
              | (go_at_call_of 23 (Value.string ⟨tT.toArray⟩); first
                | (refine (HOT.out _ g4.po).mono ?_; rintro e y5 ⟨rfl, hy⟩
                   have g5 := g4.here hy
                   have s5 := HR.out _ g5)
                | (refine (HOT.out _ g3.po).mono ?_; rintro e y4 ⟨rfl, hy⟩
                   have g4 := g3.here hy
                   have s4 := HR.out _ g4)
                | (refine (HOT.out _ g2.po).mono ?_; rintro e y3 ⟨rfl, hy⟩
                   have g3 := g2.here hy
                   have s3 := HR.out _ g3)
                | (refine (HOT.out _ g1.po).mono ?_; rintro e y2 ⟨rfl, hy⟩
                   have g2 := g1.here hy
                   have s2 := HR.out _ g2)
                | (refine (HOT.out _ g0.po).mono ?_; rintro e y1 ⟨rfl, hy⟩
                   have g1 := g0.here hy
                   have s1 := HR.out _ g1))
              | (go_at_call 25; first
                | (refine (HMU.out _ g4.po).mono ?_; rintro e y5 ⟨rfl, hy⟩
                   have g5 := g4.here hy
                   have s5 := HR.out _ g5)
                | (refine (HMU.out _ g3.po).mono ?_; rintro e y4 ⟨rfl, hy⟩
                   have g4 := g3.here hy
                   have s4 := HR.out _ g4)
                | (refine (HMU.out _ g2.po).mono ?_; rintro e y3 ⟨rfl, hy⟩
                   have g3 := g2.here hy
                   have s3 := HR.out _ g3)
                | (refine (HMU.out _ g1.po).mono ?_; rintro e y2 ⟨rfl, hy⟩
                   have g2 := g1.here hy
                   have s2 := HR.out _ g2)
                | (refine (HMU.out _ g0.po).mono ?_; rintro e y1 ⟨rfl, hy⟩
                   have g1 := g0.here hy
                   have s1 := HR.out _ g1)))
          all_goals
            go_wp2_with fail
            go_meet
            exact ⟨rfl, g5⟩
        case rest =>
        obtain ⟨rfl, H3⟩ := hcut
        rename_i wq
        clear H2 HR HOU HOT HAD HMU HSO HOX hfn hfd
        go_wp2_with fail
        go_loopw [12, 13, 15, 16, 18, 95] (fun s t _ _ _ j wr => ∃ (k : Nat) (A4 : Option Addr) (c4 : Nat) (A5 : Option Addr) (c5 : Nat), k ≤ old.length ∧ j = .int .i64 k ∧ s = .slice A4 ((old.take k).map (·.q)).length c4 ∧ t = .slice A5 ((old.take k).map (fun y => txtL (madeOf steps y.id))).length c5 ∧ Hid (TwoO W3.heap.size W3 wr A4 ((old.take k).map (·.q)).length c4 ((old.take k).map (·.q)) A5 ((old.take k).map (fun y => txtL (madeOf steps y.id))).length c5 ((old.take k).map (fun y => txtL (madeOf steps y.id))))) (fun _ _ _ _ _ j _ => old.length - (intOf j).toNat)
        case atStart => exact ⟨0, none, 0, none, 0, Nat.zero_le _, rfl, rfl, rfl, TwoO.nil H3.out.bl.size H3.out.bl⟩
        case round =>
          clear H3
          obtain ⟨k, A4, c4, A5, c5, hk, rfl, rfl, rfl, HT⟩ := hrel
          have hl1000 := HLO.out
          by_cases hlt : k < old.length
          · obtain ⟨b, off, y, hAe, hb, hy, d0, d1, d2, d3, d4, d5, d6⟩ := ((HOO.out.below HT.out.bl).sl L7_len).lot7 hlt
            have HTQ := Lib.hid (show (old.take (k + 1)).map (·.q) = (old.take k).map (·.q) ++ [y.q] by obtain ⟨h1, h2⟩ := List.getElem?_eq_some_iff.1 hy; rw [List.take_succ_eq_append_getElem h1, h2, List.map_append]; rfl)
            have HTM := Lib.hid (show (old.take (k + 1)).map (fun y => txtL (madeOf steps y.id)) = (old.take k).map (fun y => txtL (madeOf steps y.id)) ++ [txtL (madeOf steps y.id)] by obtain ⟨h1, h2⟩ := List.getElem?_eq_some_iff.1 hy; rw [List.take_succ_eq_append_getElem h1, h2, List.map_append]; rfl)
            subst hAe
            clear hy
            generalize hqk : (old.take k).map (·.q) = qk at *
            generalize hmk : (old.take k).map (fun y => txtL (madeOf steps y.id)) = mk at *
            have HLQ := Lib.hid (show qk.length = k ∧ mk.length = k ∧ k < 1000 by
              have h1 : (old.take k).length = k := by rw [List.length_take]; omega
              have h2 := HLO.out
              rw [← hqk, ← hmk, List.length_map, List.length_map]
              omega)
            clear hqk hmk
            have HYB := Lib.hid (show BlkB (wr.alloc (.cells #[.string ⟨y.id.toArray⟩, .string ⟨y.inst.toArray⟩, .int .i64 y.acq, .int .i64 y.opn, .string ⟨y.q.toArray⟩, .string ⟨y.c.toArray⟩, .string ⟨y.u.toArray⟩] 64)) wr.heap.size #[.string ⟨y.id.toArray⟩, .string ⟨y.inst.toArray⟩, .int .i64 y.acq, .int .i64 y.opn, .string ⟨y.q.toArray⟩, .string ⟨y.c.toArray⟩, .string ⟨y.u.toArray⟩] 64 from heap_alloc_new wr _)
            have HTA := Lib.hid (HT.out.alloc (.cells #[.string ⟨y.id.toArray⟩, .string ⟨y.inst.toArray⟩, .int .i64 y.acq, .int .i64 y.opn, .string ⟨y.q.toArray⟩, .string ⟨y.c.toArray⟩, .string ⟨y.u.toArray⟩] 64))
            have HO1 := Lib.hid (show ∀ g, (Value.slice A4 qk.length c4).ownBlock = some g → g < wr.heap.size from fun g hg => (own_sl HT.out.o1 hg).2)
            have HSW := Lib.hid (show (wr.alloc (.cells #[.string ⟨y.id.toArray⟩, .string ⟨y.inst.toArray⟩, .int .i64 y.acq, .int .i64 y.opn, .string ⟨y.q.toArray⟩, .string ⟨y.c.toArray⟩, .string ⟨y.u.toArray⟩] 64)).heap.size = wr.heap.size + 1 by simp)
            go_upto_region 15 with (fail)
            clear d0 d1 d2 d3 d4 d5 d6
            generalize wr.alloc (.cells #[.string ⟨y.id.toArray⟩, .string ⟨y.inst.toArray⟩, .int .i64 y.acq, .int .i64 y.opn, .string ⟨y.q.toArray⟩, .string ⟨y.c.toArray⟩, .string ⟨y.u.toArray⟩] 64) = Wy at *
            have k4 := (lot45 HYB.out).1
            have HT2 := Lib.hid (HTA.out.alloc (.cells #[.string ⟨y.q.toArray⟩] 24))
            have HY2 := Lib.hid (HYB.out.alloc (.cells #[.string ⟨y.q.toArray⟩] 24))
            have HL1 := Lib.hid (strs1 (show BlkB (Wy.alloc (.cells #[.string ⟨y.q.toArray⟩] 24)) Wy.heap.size #[.string ⟨y.q.toArray⟩] 24 from heap_alloc_new Wy _))
            go_wp2_with (at_builtin; refine wpList_app _ rfl (.tmp 99) (.tmp 102) _ rfl elemStrs S1_len S1_cell (base := W3.heap.size) (.slice A4 qk.length c4) qk rfl HT2.out.o1 _ _ 1 1 [y.q] rfl HL1.out (by have := HLQ.out; omega) HT2.out.hb ?_
                         intro B4 e4 w5 ho4 hg4 hat4
                         have HT5 := Lib.hid (TwoO.app1 HT2.out ho4 hg4 hat4)
                         have HY5 := Lib.hid (BlkB.gr hg4 (fun e => by have := HO1.out _ e.symm; omega) HY2.out)
                         have q2 : w5.cell? ⟨w2.heap.size, 2, none⟩ = some (.slice As steps.length cs) := (HK3.out.here HT5.out.bl).c 0 2 rfl rfl
                         clear ho4 hg4 hat4)
            go_loopw [16, 18, 107] (fun p _ j wi => ∃ i : Nat, i ≤ steps.length ∧ j = .int .i64 i ∧ p = .string ⟨(txtL (madeOf (steps.take i) y.id)).toArray⟩ ∧ Hid (Below w5.heap.size w5 wi)) (fun _ _ j _ => steps.length - (intOf j).toNat)
            case atStart => exact ⟨0, Nat.zero_le _, rfl, rfl, Below.refl _ _⟩
            case round =>
              clear q2
              obtain ⟨i, hi, rfl, rfl, HBI⟩ := hrel
              have hs2000 := HS3.out.2
              by_cases hil : i < steps.length
              · obtain ⟨b2, off2, s, hAs, hb2, hs, f0, f1, f2, f3, f4, f5⟩ := (((HOS.out.below HT5.out.bl).below HBI.out).sl S6_len).step6 hil
                have HTK := Lib.hid (madeK y.id hs)
                have HAD := Lib.hid (fun W hp => Add_any (txtL (madeOf (steps.take i) y.id)) s.made W hp (by have := made_len (fun s hs => HS3.out.1 s hs) HS3.out.2 i y.id; omega) (by have := HS3.out.1 s (List.mem_of_getElem? hs); omega))
                rw [val_txtL] at HAD
                subst hAs
                clear hs
                have HYI := Lib.hid ((HY5.out.here HBI.out).alloc (.cells #[.string ⟨s.cause.toArray⟩, .string ⟨s.src.toArray⟩, .string ⟨s.dst.toArray⟩, .string ⟨s.q.toArray⟩, .string ⟨s.made.toArray⟩, .string ⟨s.cost.toArray⟩] 66))
                have HSB := Lib.hid (show BlkB (wr.alloc (.cells #[.string ⟨s.cause.toArray⟩, .string ⟨s.src.toArray⟩, .string ⟨s.dst.toArray⟩, .string ⟨s.q.toArray⟩, .string ⟨s.made.toArray⟩, .string ⟨s.cost.toArray⟩] 66)) wr.heap.size #[.string ⟨s.cause.toArray⟩, .string ⟨s.src.toArray⟩, .string ⟨s.dst.toArray⟩, .string ⟨s.q.toArray⟩, .string ⟨s.made.toArray⟩, .string ⟨s.cost.toArray⟩] 66 from heap_alloc_new wr _)
                have HBA := Lib.hid (HBI.out.alloc HBI.out.size (.cells #[.string ⟨s.cause.toArray⟩, .string ⟨s.src.toArray⟩, .string ⟨s.dst.toArray⟩, .string ⟨s.q.toArray⟩, .string ⟨s.made.toArray⟩, .string ⟨s.cost.toArray⟩] 66))
                have HEP := Lib.hid ((HK3.out.here HT5.out.bl).here HBA.out).po
                unfold StrPost S at HAD
                cases hsb : (s.src == y.id) with
                | true =>
                  have HNE := Lib.hid (show madeOf (steps.take (i + 1)) y.id = madeOf (steps.take i) y.id + val s.made by rw [HTK.out, if_pos (by simpa using hsb)])
                  rw [← HNE.out] at HAD
                  go_upto_region 20 with (fail)
                  clear f0 f1 f2 f3 f4 f5
                  generalize wr.alloc (.cells #[.string ⟨s.cause.toArray⟩, .string ⟨s.src.toArray⟩, .string ⟨s.dst.toArray⟩, .string ⟨s.q.toArray⟩, .string ⟨s.made.toArray⟩, .string ⟨s.cost.toArray⟩] 66) = Wi at *
                  have e1 := HSB.out.cell 1 rfl; have e4 := HSB.out.cell 4 rfl; have e0 := HYI.out.cell 0 rfl
                  go_wp2_with fail
                  refine (HAD.out _ HEP.out).mono ?_
                  rintro e w6 ⟨rfl, hb6⟩
                  clear e1 e4 e0
                  go_wp2_with fail
                  go_roundw
                  case rel => exact ⟨i + 1, by omega, by go_num, rfl, HBA.out.trans (hb6.mono HBA.out.size)⟩
                  case measure => simp [intOf]; omega
                | false =>
                  have HNE := Lib.hid (show madeOf (steps.take (i + 1)) y.id = madeOf (steps.take i) y.id by rw [HTK.out, if_neg (by simpa using hsb), Int.add_zero])
                  go_upto_region 20 with (fail)
                  clear f0 f1 f2 f3 f4 f5
                  generalize wr.alloc (.cells #[.string ⟨s.cause.toArray⟩, .string ⟨s.src.toArray⟩, .string ⟨s.dst.toArray⟩, .string ⟨s.q.toArray⟩, .string ⟨s.made.toArray⟩, .string ⟨s.cost.toArray⟩] 66) = Wi at *
                  have e1 := HSB.out.cell 1 rfl; have e4 := HSB.out.cell 4 rfl; have e0 := HYI.out.cell 0 rfl
                  go_wp2_with fail
                  go_roundw
                  case rel => exact ⟨i + 1, by omega, by go_num, by rw [HNE.out], HBA.out⟩
                  case measure => simp [intOf]; omega
              · obtain rfl : i = steps.length := by omega
                rw [List.take_of_length_le (Nat.le_refl _)]
                have HT7 := Lib.hid ((HT5.out.below HBI.out).alloc (.cells #[.string ⟨(txtL (madeOf steps y.id)).toArray⟩] 24))
                have HL2 := Lib.hid (strs1 (show BlkB (wr.alloc (.cells #[.string ⟨(txtL (madeOf steps y.id)).toArray⟩] 24)) wr.heap.size #[.string ⟨(txtL (madeOf steps y.id)).toArray⟩] 24 from heap_alloc_new wr _))
                generalize txtL (madeOf steps y.id) = ty at *
                go_wp2_with (at_builtin; refine wpList_app _ rfl (.tmp 121) (.tmp 123) _ rfl elemStrs S1_len S1_cell (base := W3.heap.size) (.slice A5 mk.length c5) mk rfl HT7.out.o2 _ _ 1 1 [ty] rfl HL2.out (by have := HLQ.out; omega) HT7.out.hb ?_
                             intro B5 e5 w8 ho5 hg5 hat5
                             have HT8 := Lib.hid (TwoO.app2 HT7.out ho5 hg5 hat5)
                             clear ho5 hg5 hat5)
                go_roundw
                case rel =>
                  refine ⟨k + 1, B4, e4, B5, e5, by omega, by go_num, by rw [HTQ.out, List.length_append]; rfl, by rw [HTM.out, List.length_append]; rfl, ?_⟩
                  show TwoO _ _ _ _ _ _ _ _ _ _ _
                  rw [HTQ.out, HTM.out, List.length_append, List.length_append]
                  exact HT8.out
                case measure => simp [intOf]; omega
          · obtain rfl : k = old.length := by omega
            rw [List.take_of_length_le (Nat.le_refl _), List.length_map, List.length_map] at HT ⊢
            have HKR := Lib.hid (HK3.out.here HT.out.bl)
            go_wp2_with fail
            refine (HCK.out _ _ _ _ _ HKR.out.pw (HT.out.o1.sl S1_len) (HT.out.o2.sl S1_len)).mono ?_
            rintro e w6 ⟨rfl, hb6⟩
            have HK6 := Lib.hid (HKR.out.here hb6)
            go_wp2_with fail
            refine (HAW.out _ HK6.out.bl).mono ?_
            rintro e w7 ⟨rfl, hb7⟩
            go_wp2_with fail
            first | go_ret | skip
            exact ⟨rfl, (HK6.out.here hb7).bl⟩
    · rw [HNL.out, if_neg h0, HNO.out h0] at oO oM oL oG oS ⊢
      dsimp only
      rw [show Res.none.lots.length = 0 from rfl, show Res.none.gains.length = 0 from rfl, show Res.none.steps.length = 0 from rfl, show ([] : List Lot).length = 0 from rfl]
      have HK2 := Lib.hid (HK1.out.here hb2)
      have HK3 := Lib.hid (HK2.out.new w2.heap.size rfl #[.slice A1 0 c1, .slice Ag 0 cg, .slice As 0 cs, .slice none 0 0] 35)
      have e1 := HK3.out.c 0 0 rfl rfl
      clear oO oM oL oG oS hb2 h0
      go_wp2_with fail
      refine (HAW.out _ HK3.out.bl).mono ?_
      rintro e w4 ⟨rfl, hb4⟩
      go_wp2_with fail
      first | go_ret | skip
      exact ⟨rfl, (HK3.out.here hb4).bl⟩
end Go.Proofs.YtndndphfblijpaaGreatDoor
