/- Merged texts: Nu, Eq7, AwP. -/
import Derived.Test.YtndndphfblijpaaGreatDoorMwqGQ
import Derived.Deep.RegionHeld3
import Derived.Deep.DrawnRows
import Derived.Deep.DeepCutAuto
import Derived.Test.YtndndphfblijpaaGreatDoorQGQ14
import Derived.Test.YtndndphfblijpaaGreatDoorQGQ20
/- Contract of the statements' numbers. -/
namespace Go.Proofs.YtndndphfblijpaaGreatDoor
open Go.RowKit Go.Shelf
attribute [local go_sem ↓] Go.wp_at_zero Go.wp_at_succ

/-- What numbers gives. -/
def numL (ls : List Lot) (m : Mp) : List Lot × List Lot × Res × Bool :=
  if (mapL ls m).2 = 0 then (lotsOf ls m.inst, newOf ls (mapL ls m).1.lots, (mapL ls m).1, true) else ([], [], (mapL ls m).1, false)
def NumPost (r : List Lot × List Lot × Res × Bool) (w : World) (e : Ending) (w' : World) : Prop :=
  ∃ Ao co Am cm A c Ag cg As cs, e = .returned (.tuple #[.slice Ao r.1.length co, .slice Am r.2.1.length cm, .agg #[.slice A r.2.2.1.lots.length c, .slice Ag r.2.2.1.gains.length cg, .slice As r.2.2.1.steps.length cs, .slice none 0 0], .bool r.2.2.2]) ∧
    Own L7 7 64 w' w.heap.size (.slice Ao r.1.length co) r.1 ∧ Own L7 7 64 w' w.heap.size (.slice Am r.2.1.length cm) r.2.1 ∧ Own L7 7 64 w' w.heap.size (.slice A r.2.2.1.lots.length c) r.2.2.1.lots ∧
    Own G10 10 40 w' w.heap.size (.slice Ag r.2.2.1.gains.length cg) r.2.2.1.gains ∧ Own S6 6 66 w' w.heap.size (.slice As r.2.2.1.steps.length cs) r.2.2.1.steps ∧ Below w.heap.size w w'
theorem Own.sets4 {α : Type} {enc : α → List Value} {k base : Nat} {e : TypeId} {v : Value} {xs : List α} {X : World} {p : Nat} {cs : Array Value} {T : TypeId} (h : Own enc k e X base v xs) (hb : BlkB X p cs T) (hn : e ≠ T) (a b c d : Value) :
    Own enc k e ((((X.setCell ⟨p, 0, none⟩ a).setCell ⟨p, 1, none⟩ b).setCell ⟨p, 2, none⟩ c).setCell ⟨p, 3, none⟩ d) base v xs :=
  (((h.farB hb hn 0 a).farB (hb.set 0 a) hn 1 b).farB ((hb.set 0 a).set 1 b) hn 2 c).farB (((hb.set 0 a).set 1 b).set 2 c) hn 3 d
theorem newOf_snoc (ls l : List Lot) (y : Lot) : newOf ls (l ++ [y]) = newOf ls l ++ if y.id ∈ ls.map (·.id) then [] else [y] := by
  unfold newOf
  rw [List.filter_append]
  congr 1
  by_cases h : y.id ∈ ls.map (·.id)
  · rw [if_pos h, List.filter_cons_of_neg (by simpa using h)]; rfl
  · rw [if_neg h, List.filter_cons_of_pos (by simpa using h)]; rfl
theorem newOf_len (ls l : List Lot) : (newOf ls l).length ≤ l.length := List.length_filter_le _ _
set_option maxRecDepth 100000 in
set_option maxHeartbeats 8000000 in
theorem numbers_any (A : Option Addr) (n c : Nat) (ls : List Lot) (m : Mp) (w : World) (L : Nat) (hp : Env w) (hs : Lots w w.heap.size A n ls) (hnil : (A = none ∧ c = 0) ∨ ∃ a, A = some a) (hn : n ≤ 100000) (hl : ∀ y ∈ ls, y.Sz 50000) (hm : m.Sz 5000 ∨ m.Bad)
    (hL : L ≤ 100) (hL1 : 1 ≤ L) (hq : ∀ y ∈ ls, y.q.length ≤ L) (hc : ∀ y ∈ ls, y.c.length ≤ L) (hr : m.ratio.Sz L) (hsh : m.share.Sz L) (hpr : m.price.Sz L) :
    Calls Tryz.prog 8 #[.slice A n c, MpV m] w (NumPost (numL ls m) w) := by
  obtain ⟨post, hpost⟩ : ∃ post, post = NumPost (numL ls m) w := ⟨_, rfl⟩
  rw [← hpost]
  have HPO := Lib.hid hpost
  clear hpost
  have HMP := Lib.hid (fun W (hb : Below w.heap.size w W) => map_any A n c ls m W L (hp.here hb) (hs.here hb) hnil hn hl hm hL hL1 hq hc hr hsh hpr)
  have HNU := Lib.hid (show numL ls m = if (mapL ls m).2 = 0 then (lotsOf ls m.inst, newOf ls (mapL ls m).1.lots, (mapL ls m).1, true) else ([], [], (mapL ls m).1, false) from rfl)
  have HRL := Lib.hid (show (mapL ls m).2 = 0 → (mapL ls m).1.lots.length ≤ 1000 from fun h => by
    rcases mapL_case ls m with ⟨e, he, h'⟩ | ⟨h1, h2, h3, h'⟩ | ⟨X, Y, hM, h'⟩
    · rw [h'] at h; exact absurd h he
    · rw [h']; exact h1.len
    · rw [h']; exact hM.len)
  generalize numL ls m = nu at *
  generalize mapL ls m = res at *
  have HK0 := Lib.hid (show Kp w [(w.heap.size + 1, #[.slice none 0 0, .slice none 0 0, .slice none 0 0, .slice none 0 0], 35), (w.heap.size, #[.string ⟨m.cause.toArray⟩, .int .i64 m.day, .string ⟨m.inst.toArray⟩, .string ⟨m.other.toArray⟩, .string ⟨m.ratio.n.toArray⟩, .string ⟨m.ratio.d.toArray⟩, .string ⟨m.share.n.toArray⟩, .string ⟨m.share.d.toArray⟩, .string ⟨m.price.n.toArray⟩, .string ⟨m.price.d.toArray⟩, .bool m.keep], 28)] ((w.alloc (.cells #[.string ⟨m.cause.toArray⟩, .int .i64 m.day, .string ⟨m.inst.toArray⟩, .string ⟨m.other.toArray⟩, .string ⟨m.ratio.n.toArray⟩, .string ⟨m.ratio.d.toArray⟩, .string ⟨m.share.n.toArray⟩, .string ⟨m.share.d.toArray⟩, .string ⟨m.price.n.toArray⟩, .string ⟨m.price.d.toArray⟩, .bool m.keep] 28)).alloc (.cells #[.slice none 0 0, .slice none 0 0, .slice none 0 0, .slice none 0 0] 35)) from ((Kp.start hp).new w.heap.size rfl _ _).new (w.heap.size + 1) (by simp) _ _)
  have HP := Lib.hid hp; have HS := Lib.hid hs; have HN := Lib.hid hn
  have HLO := Lib.hid (fun W (hb : Below w.heap.size w W) => lotOf_any A n c ls m.inst W (hs.here hb) (by omega))
  clear hp hs hnil hn hl hm hL hL1 hq hc hr hsh hpr
  unfold MpV
  rw [mpA_eq]
  unfold MpV at HMP
  rw [mpA_eq] at HMP
  unfold S at HLO
  obtain ⟨z0, z1, z2, z3, z4, z5, z6, z7, z8, z9, z10⟩ := mp11 HK0.out (m := m) (i := 1) rfl
  go_enter Tryz.func8, Tryz.ntmps8
  go_wp2_with fail
  generalize ((w.alloc (.cells #[.string ⟨m.cause.toArray⟩, .int .i64 m.day, .string ⟨m.inst.toArray⟩, .string ⟨m.other.toArray⟩, .string ⟨m.ratio.n.toArray⟩, .string ⟨m.ratio.d.toArray⟩, .string ⟨m.share.n.toArray⟩, .string ⟨m.share.d.toArray⟩, .string ⟨m.price.n.toArray⟩, .string ⟨m.price.d.toArray⟩, .bool m.keep] 28)).alloc (.cells #[.slice none 0 0, .slice none 0 0, .slice none 0 0, .slice none 0 0] 35)) = W0 at *
  refine (HMP.out _ HK0.out.bl).mono ?_
  rintro e w1 ⟨A1, c1, Ag, cg, As, cs, rfl, oL, oG, oS, hb1⟩
  have HK1 := Lib.hid (HK0.out.here hb1)
  have HO1 := Lib.hid (oL.base_ HK0.out.bl.size); have HG1 := Lib.hid (oG.base_ HK0.out.bl.size); have HT1 := Lib.hid (oS.base_ HK0.out.bl.size)
  clear oL oG oS hb1 HK0 HMP z0 z1 z2 z3 z4 z5 z6 z7 z8 z9 z10
  obtain ⟨lots, hlots⟩ : ∃ l, l = res.1.lots := ⟨_, rfl⟩
  obtain ⟨gns, hgns⟩ : ∃ l, l = res.1.gains := ⟨_, rfl⟩
  obtain ⟨sts, hsts⟩ : ∃ l, l = res.1.steps := ⟨_, rfl⟩
  rw [← hlots] at HO1 HNU HRL ⊢
  rw [← hgns] at HG1 ⊢
  rw [← hsts] at HT1 ⊢
  have HR1 := Lib.hid (show res.1 = ⟨lots, gns, sts⟩ by rw [hlots, hgns, hsts])
  clear hlots hgns hsts
  have n0 := HK1.out.c 0 0 rfl rfl; have n1 := HK1.out.c 0 1 rfl rfl; have n2 := HK1.out.c 0 2 rfl rfl; have n3 := HK1.out.c 0 3 rfl rfl
  have f0 := HK1.out.f 0 0 rfl; have f1 := HK1.out.f 0 1 rfl; have f2 := HK1.out.f 0 2 rfl; have f3 := HK1.out.f 0 3 rfl
  have HK2 := Lib.hid (show Kp w [(w.heap.size + 1, #[.slice A1 lots.length c1, .slice Ag gns.length cg, .slice As sts.length cs, .slice none 0 0], 35), (w.heap.size, #[.string ⟨m.cause.toArray⟩, .int .i64 m.day, .string ⟨m.inst.toArray⟩, .string ⟨m.other.toArray⟩, .string ⟨m.ratio.n.toArray⟩, .string ⟨m.ratio.d.toArray⟩, .string ⟨m.share.n.toArray⟩, .string ⟨m.share.d.toArray⟩, .string ⟨m.price.n.toArray⟩, .string ⟨m.price.d.toArray⟩, .bool m.keep], 28)] (((((w1.setCell ⟨w.heap.size + 1, 0, none⟩ (.slice A1 lots.length c1)).setCell ⟨w.heap.size + 1, 1, none⟩ (.slice Ag gns.length cg)).setCell ⟨w.heap.size + 1, 2, none⟩ (.slice As sts.length cs)).setCell ⟨w.heap.size + 1, 3, none⟩ (.slice none 0 0))) from (((HK1.out.set 0 0 rfl (.slice A1 lots.length c1)).set 0 1 rfl (.slice Ag gns.length cg)).set 0 2 rfl (.slice As sts.length cs)).set 0 3 rfl (.slice none 0 0))
  have hb1 := HK1.out.at_ 0 rfl
  have HO2 := Lib.hid ((((HO1.out.farB hb1 (by decide) 0 (.slice A1 lots.length c1)).farB (hb1.set 0 _) (by decide) 1 (.slice Ag gns.length cg)).farB ((hb1.set 0 _).set 1 _) (by decide) 2 (.slice As sts.length cs)).farB (((hb1.set 0 _).set 1 _).set 2 _) (by decide) 3 (.slice none 0 0))
  have HG2 := Lib.hid ((((HG1.out.farB hb1 (by decide) 0 (.slice A1 lots.length c1)).farB (hb1.set 0 _) (by decide) 1 (.slice Ag gns.length cg)).farB ((hb1.set 0 _).set 1 _) (by decide) 2 (.slice As sts.length cs)).farB (((hb1.set 0 _).set 1 _).set 2 _) (by decide) 3 (.slice none 0 0))
  have HT2 := Lib.hid ((((HT1.out.farB hb1 (by decide) 0 (.slice A1 lots.length c1)).farB (hb1.set 0 _) (by decide) 1 (.slice Ag gns.length cg)).farB ((hb1.set 0 _).set 1 _) (by decide) 2 (.slice As sts.length cs)).farB (((hb1.set 0 _).set 1 _).set 2 _) (by decide) 3 (.slice none 0 0))
  clear hb1
  obtain ⟨er, her⟩ : ∃ er, er = res.2 := ⟨_, rfl⟩
  rw [← her] at HNU HRL ⊢
  clear her
  go_upto_if 20 with (fail)
  clear n0 n1 n2 n3 f0 f1 f2 f3 HK1 HO1 HG1 HT1
  generalize ((((w1.setCell ⟨w.heap.size + 1, 0, none⟩ (.slice A1 lots.length c1)).setCell ⟨w.heap.size + 1, 1, none⟩ (.slice Ag gns.length cg)).setCell ⟨w.heap.size + 1, 2, none⟩ (.slice As sts.length cs)).setCell ⟨w.heap.size + 1, 3, none⟩ (.slice none 0 0)) = W2 at *
  by_cases h0 : er = 0
  · subst h0
    rw [if_pos rfl, HR1.out] at HNU
    have HLL := Lib.hid (HRL.out rfl)
    clear HRL
    have n0 := HK2.out.c 0 0 rfl rfl
    rw [show ((0 : Int) != 0) = false from rfl]
    go_wp2_with fail
    go_loopw [5, 10, 11, 12, 25] (fun s _ _ _ j wr => ∃ (k : Nat) (A3 : Option Addr) (c3 : Nat), k ≤ lots.length ∧ j = .int .i64 k ∧ s = .slice A3 (newOf ls (lots.take k)).length c3 ∧ Hid (Own L7 7 64 wr W2.heap.size (.slice A3 (newOf ls (lots.take k)).length c3) (newOf ls (lots.take k))) ∧ Hid (Below W2.heap.size W2 wr)) (fun _ _ _ _ j _ => lots.length - (intOf j).toNat)
    case atStart => exact ⟨0, none, 0, Nat.zero_le _, rfl, rfl, Own.nil, Below.refl _ _⟩
    case round =>
      clear n0
      obtain ⟨k, A3, c3, hk, rfl, rfl, HOW, HBR⟩ := hrel
      have HKW := Lib.hid (HK2.out.here HBR.out)
      have hll := HLL.out
      by_cases hlt : k < lots.length
      · obtain ⟨b, off, y, rfl, hb, hy, d0, d1, d2, d3, d4, d5, d6⟩ := ((HO2.out.below HBR.out).sl L7_len).lot7 hlt
        have HTK := Lib.hid (show newOf ls (lots.take (k + 1)) = newOf ls (lots.take k) ++ if y.id ∈ ls.map (·.id) then [] else [y] by
          obtain ⟨h1, h2⟩ := List.getElem?_eq_some_iff.1 hy
          rw [List.take_succ_eq_append_getElem h1, h2, newOf_snoc])
        have HFM := Lib.hid (fnd_mem ls y.id)
        have HA1 := Lib.hid (HBR.out.alloc HBR.out.size (.cells #[.string ⟨y.id.toArray⟩, .string ⟨y.inst.toArray⟩, .int .i64 y.acq, .int .i64 y.opn, .string ⟨y.q.toArray⟩, .string ⟨y.c.toArray⟩, .string ⟨y.u.toArray⟩] 64))
        have HW1 := Lib.hid (HOW.out.alloc (.cells #[.string ⟨y.id.toArray⟩, .string ⟨y.inst.toArray⟩, .int .i64 y.acq, .int .i64 y.opn, .string ⟨y.q.toArray⟩, .string ⟨y.c.toArray⟩, .string ⟨y.u.toArray⟩] 64))
        have HFD := Lib.hid (find_any A n c ls y.id (wr.alloc (.cells #[.string ⟨y.id.toArray⟩, .string ⟨y.inst.toArray⟩, .int .i64 y.acq, .int .i64 y.opn, .string ⟨y.q.toArray⟩, .string ⟨y.c.toArray⟩, .string ⟨y.u.toArray⟩] 64)) (HS.out.here (HKW.out.alloc _).bl) (by have := HN.out; omega))
        have HYB := Lib.hid (show BlkB (wr.alloc (.cells #[.string ⟨y.id.toArray⟩, .string ⟨y.inst.toArray⟩, .int .i64 y.acq, .int .i64 y.opn, .string ⟨y.q.toArray⟩, .string ⟨y.c.toArray⟩, .string ⟨y.u.toArray⟩] 64)) wr.heap.size #[.string ⟨y.id.toArray⟩, .string ⟨y.inst.toArray⟩, .int .i64 y.acq, .int .i64 y.opn, .string ⟨y.q.toArray⟩, .string ⟨y.c.toArray⟩, .string ⟨y.u.toArray⟩] 64 from heap_alloc_new wr _)
        have HLK := Lib.hid (show (newOf ls (lots.take k)).length + 1 ≤ 100000000000 from Nat.le_trans (Nat.succ_le_succ (newOf_len ls (lots.take k))) (by rw [List.length_take]; have := HLL.out; omega))
        unfold S at HFD
        generalize max (fndI ls y.id) 0 = mx at *
        generalize decide (0 ≤ fndI ls y.id) = fb at *
        clear hy hk
        go_wp2_with fail
        generalize wr.alloc (.cells #[.string ⟨y.id.toArray⟩, .string ⟨y.inst.toArray⟩, .int .i64 y.acq, .int .i64 y.opn, .string ⟨y.q.toArray⟩, .string ⟨y.c.toArray⟩, .string ⟨y.u.toArray⟩] 64) = Wy at *
        refine HFD.out.mono ?_
        rintro e w5 ⟨rfl, hb5⟩
        have HB5 := Lib.hid (HA1.out.trans (hb5.mono HA1.out.size))
        have HW5 := Lib.hid (HW1.out.below hb5)
        have HY5 := Lib.hid (HYB.out.here hb5)
        clear hb5 d0 d1 d2 d3 d4 d5 d6
        cases fb with
        | true =>
          have HNE := Lib.hid (show newOf ls (lots.take (k + 1)) = newOf ls (lots.take k) by rw [HTK.out, if_pos (by simpa using HFM.out), List.append_nil])
          go_wp2_with fail
          go_roundw
          case rel => exact ⟨k + 1, A3, c3, by omega, by go_num, by rw [HNE.out], (show Own _ _ _ _ _ _ _ by rw [HNE.out]; exact HW5.out), HB5.out⟩
          case measure => simp [intOf]; omega
        | false =>
          have HNE := Lib.hid (show newOf ls (lots.take (k + 1)) = newOf ls (lots.take k) ++ [y] by rw [HTK.out, if_neg (by simpa using HFM.out)])
          obtain ⟨d0, d1, d2, d3, d4, d5, d6⟩ := s7b HY5.out
          have HA2 := Lib.hid (HB5.out.alloc HB5.out.size (.cells #[.string ⟨y.id.toArray⟩, .string ⟨y.inst.toArray⟩, .int .i64 y.acq, .int .i64 y.opn, .string ⟨y.q.toArray⟩, .string ⟨y.c.toArray⟩, .string ⟨y.u.toArray⟩] 64))
          have HO3 := Lib.hid (HW5.out.alloc (.cells #[.string ⟨y.id.toArray⟩, .string ⟨y.inst.toArray⟩, .int .i64 y.acq, .int .i64 y.opn, .string ⟨y.q.toArray⟩, .string ⟨y.c.toArray⟩, .string ⟨y.u.toArray⟩] 64))
          have HL1 := Lib.hid (lots1 (y := y) (show BlkB (w5.alloc (.cells #[.string ⟨y.id.toArray⟩, .string ⟨y.inst.toArray⟩, .int .i64 y.acq, .int .i64 y.opn, .string ⟨y.q.toArray⟩, .string ⟨y.c.toArray⟩, .string ⟨y.u.toArray⟩] 64)) w5.heap.size (lotC7 y) 64 from heap_alloc_new w5 _))
          generalize hkl : newOf ls (lots.take k) = kl at *
          have HKL := Lib.hid hkl
          clear hkl
          go_wp2_with (at_builtin; refine wpList_app _ rfl (.tmp 38) (.tmp 40) _ rfl elemLots L7_len L7_cell (base := W2.heap.size) (.slice A3 _ c3) kl rfl HO3.out _ _ 1 1 [y] rfl HL1.out HLK.out HA2.out.size ?_
                       intro A4 c4 w6 ho4 hg4 _)
          go_roundw
          case rel =>
            have hl : (newOf ls (lots.take (k + 1))).length = kl.length + 1 := by rw [HNE.out]; simp
            exact ⟨k + 1, A4, c4, by omega, by go_num, by rw [hl], (show Own _ _ _ _ _ _ _ by rw [hl, HNE.out]; exact ho4), below_grown HA2.out hg4 HA2.out.size (fun g hg => own_ge HO3.out hg)⟩
          case measure => simp [intOf]; omega
      · obtain rfl : k = lots.length := by omega
        have HTA := Lib.hid (show lots.take lots.length = lots from List.take_of_length_le (Nat.le_refl _))
        rw [HTA.out] at HOW ⊢
        go_upto_region 11 with (fail)
        have HS5 := Lib.hid (show ∀ X, Below wr.heap.size wr X → X.cell? ⟨w.heap.size, 2, none⟩ = some (.string ⟨m.inst.toArray⟩) ∧ X.cell? ⟨w.heap.size + 1, 0, none⟩ = some (.slice A1 lots.length c1) ∧ X.cell? ⟨w.heap.size + 1, 1, none⟩ = some (.slice Ag gns.length cg) ∧ X.cell? ⟨w.heap.size + 1, 2, none⟩ = some (.slice As sts.length cs) ∧ X.cell? ⟨w.heap.size + 1, 3, none⟩ = some (.slice none 0 0) from fun X hX =>
          ⟨(HKW.out.here hX).c 1 2 rfl rfl, (HKW.out.here hX).c 0 0 rfl rfl, (HKW.out.here hX).c 0 1 rfl rfl, (HKW.out.here hX).c 0 2 rfl rfl, (HKW.out.here hX).c 0 3 rfl rfl⟩)
        have HS6 := Lib.hid (show ∀ Y, Below wr.heap.size wr Y → (((((Y.setCell ⟨w.heap.size + 1, 0, none⟩ (.slice A1 lots.length c1)).setCell ⟨w.heap.size + 1, 1, none⟩ (.slice Ag gns.length cg)).setCell ⟨w.heap.size + 1, 2, none⟩ (.slice As sts.length cs)).setCell ⟨w.heap.size + 1, 3, none⟩ (.slice none 0 0)).cell? ⟨w.heap.size, 2, none⟩ = some (.string ⟨m.inst.toArray⟩) ∧ ((((Y.setCell ⟨w.heap.size + 1, 0, none⟩ (.slice A1 lots.length c1)).setCell ⟨w.heap.size + 1, 1, none⟩ (.slice Ag gns.length cg)).setCell ⟨w.heap.size + 1, 2, none⟩ (.slice As sts.length cs)).setCell ⟨w.heap.size + 1, 3, none⟩ (.slice none 0 0)).cell? ⟨w.heap.size + 1, 0, none⟩ = some (.slice A1 lots.length c1) ∧ ((((Y.setCell ⟨w.heap.size + 1, 0, none⟩ (.slice A1 lots.length c1)).setCell ⟨w.heap.size + 1, 1, none⟩ (.slice Ag gns.length cg)).setCell ⟨w.heap.size + 1, 2, none⟩ (.slice As sts.length cs)).setCell ⟨w.heap.size + 1, 3, none⟩ (.slice none 0 0)).cell? ⟨w.heap.size + 1, 1, none⟩ = some (.slice Ag gns.length cg) ∧ ((((Y.setCell ⟨w.heap.size + 1, 0, none⟩ (.slice A1 lots.length c1)).setCell ⟨w.heap.size + 1, 1, none⟩ (.slice Ag gns.length cg)).setCell ⟨w.heap.size + 1, 2, none⟩ (.slice As sts.length cs)).setCell ⟨w.heap.size + 1, 3, none⟩ (.slice none 0 0)).cell? ⟨w.heap.size + 1, 2, none⟩ = some (.slice As sts.length cs) ∧ ((((Y.setCell ⟨w.heap.size + 1, 0, none⟩ (.slice A1 lots.length c1)).setCell ⟨w.heap.size + 1, 1, none⟩ (.slice Ag gns.length cg)).setCell ⟨w.heap.size + 1, 2, none⟩ (.slice As sts.length cs)).setCell ⟨w.heap.size + 1, 3, none⟩ (.slice none 0 0)).cell? ⟨w.heap.size + 1, 3, none⟩ = some (.slice none 0 0)) from fun Y hY =>
          have h := ((((HKW.out.here hY).set 0 0 rfl (.slice A1 lots.length c1)).set 0 1 rfl (.slice Ag gns.length cg)).set 0 2 rfl (.slice As sts.length cs)).set 0 3 rfl (.slice none 0 0)
          ⟨h.c 1 2 rfl rfl, h.c 0 0 rfl rfl, h.c 0 1 rfl rfl, h.c 0 2 rfl rfl, h.c 0 3 rfl rfl⟩)
        go_cut [4, 5, 7] (fun s t b wc => ∃ Ao co, s = .slice Ao (lotsOf ls m.inst).length co ∧ t = .slice A3 (newOf ls lots).length c3 ∧ b = .bool true ∧ Hid (Own L7 7 64 wc w.heap.size (.slice Ao (lotsOf ls m.inst).length co) (lotsOf ls m.inst)) ∧ Hid (Kp w [(w.heap.size + 1, #[.slice A1 lots.length c1, .slice Ag gns.length cg, .slice As sts.length cs, .slice none 0 0], 35), (w.heap.size, #[.string ⟨m.cause.toArray⟩, .int .i64 m.day, .string ⟨m.inst.toArray⟩, .string ⟨m.other.toArray⟩, .string ⟨m.ratio.n.toArray⟩, .string ⟨m.ratio.d.toArray⟩, .string ⟨m.share.n.toArray⟩, .string ⟨m.share.d.toArray⟩, .string ⟨m.price.n.toArray⟩, .string ⟨m.price.d.toArray⟩, .bool m.keep], 28)] wc) ∧ Hid (∃ Y, Below wr.heap.size wr Y ∧ wc = ((((Y.setCell ⟨w.heap.size + 1, 0, none⟩ (.slice A1 lots.length c1)).setCell ⟨w.heap.size + 1, 1, none⟩ (.slice Ag gns.length cg)).setCell ⟨w.heap.size + 1, 2, none⟩ (.slice As sts.length cs)).setCell ⟨w.heap.size + 1, 3, none⟩ (.slice none 0 0))))
        case first =>
          have b0 : Below wr.heap.size wr wr.drew := (Below.refl _ _).drew
          have s0 := HS5.out _ b0
          have s0s := HS6.out _ b0
          obtain ⟨s00, s01, s02, s03, s04⟩ := HS5.out _ (Below.refl _ wr)
          have f0 := HKW.out.f 0 0 rfl; have f1 := HKW.out.f 0 1 rfl; have f2 := HKW.out.f 0 2 rfl; have f3 := HKW.out.f 0 3 rfl
          unfold RetOwn at HLO
          go_region_held3 (fun X => X.cell? ⟨w.heap.size, 2, none⟩ = some (.string ⟨m.inst.toArray⟩) ∧ X.cell? ⟨w.heap.size + 1, 0, none⟩ = some (.slice A1 lots.length c1) ∧ X.cell? ⟨w.heap.size + 1, 1, none⟩ = some (.slice Ag gns.length cg) ∧ X.cell? ⟨w.heap.size + 1, 2, none⟩ = some (.slice As sts.length cs) ∧ X.cell? ⟨w.heap.size + 1, 3, none⟩ = some (.slice none 0 0))
            (first
              | with_reducible exact HS6.out _ b1
              | with_reducible exact HS5.out _ b1
              | with_reducible exact s0s
              | with_reducible exact s0
              | go_keep)
            (first
              | (go_at_call 17; refine (HLO.out _ (HKW.out.bl.trans (b0.mono HKW.out.bl.size))).mono ?_; rintro e y1 ⟨Ao, co, rfl, ho, hy⟩
                 have b1 := b0.trans (hy.mono b0.size)
                 have g0 := (HKW.out.here b1).f 0 0 rfl; have g1 := (HKW.out.here b1).f 0 1 rfl; have g2 := (HKW.out.here b1).f 0 2 rfl; have g3 := (HKW.out.here b1).f 0 3 rfl
                 have ho1 := ho.base_ (Nat.le_trans HKW.out.bl.size b0.size)
                 clear ho hy))
          all_goals
            go_wp2_with fail
            go_meet
            exact ⟨Ao, co, rfl, rfl, rfl, ho1.sets4 ((HKW.out.here b1).at_ 0 rfl) (by decide) _ _ _ _, ((((HKW.out.here b1).set 0 0 rfl _).set 0 1 rfl _).set 0 2 rfl _).set 0 3 rfl _, ⟨y1, b1, rfl⟩⟩
        case rest =>
        obtain ⟨Ao, co, rfl, rfl, rfl, HOO, HKF, HEX⟩ := hcut
        have m0 := HKF.out.c 0 0 rfl rfl; have m1 := HKF.out.c 0 1 rfl rfl; have m2 := HKF.out.c 0 2 rfl rfl; have m3 := HKF.out.c 0 3 rfl rfl
        go_wp2_with fail
        refine bodyPost_ret (v := .tuple #[.slice Ao (lotsOf ls m.inst).length co, .slice A3 (newOf ls lots).length c3, .agg #[.slice A1 lots.length c1, .slice Ag gns.length cg, .slice As sts.length cs, .slice none 0 0], .bool true]) (by simp [results, Tryz.results8, go_sem, m0, m1, m2, m3]) rfl ?_
        rw [HPO.out, HNU.out]
        obtain ⟨Y, hY, rfl⟩ := HEX.out
        have hbk := (HKW.out.here hY).at_ 0 rfl
        exact ⟨Ao, co, A3, c3, A1, c1, Ag, cg, As, cs, rfl, HOO.out, ((HOW.out.below hY).sets4 hbk (by decide) _ _ _ _).base_ HK2.out.bl.size, ((HO2.out.below HBR.out).below hY).sets4 hbk (by decide) _ _ _ _, ((HG2.out.below HBR.out).below hY).sets4 hbk (by decide) _ _ _ _, ((HT2.out.below HBR.out).below hY).sets4 hbk (by decide) _ _ _ _, HKF.out.bl⟩
  · have hne : (er != 0) = true := by simpa using h0
    rw [if_neg h0, HR1.out] at HNU
    clear h0 HRL
    obtain ⟨n0, n1, n2, n3⟩ : W2.cell? ⟨w.heap.size + 1, 0, none⟩ = some (.slice A1 lots.length c1) ∧ W2.cell? ⟨w.heap.size + 1, 1, none⟩ = some (.slice Ag gns.length cg) ∧ W2.cell? ⟨w.heap.size + 1, 2, none⟩ = some (.slice As sts.length cs) ∧ W2.cell? ⟨w.heap.size + 1, 3, none⟩ = some (.slice none 0 0) := ⟨HK2.out.c 0 0 rfl rfl, HK2.out.c 0 1 rfl rfl, HK2.out.c 0 2 rfl rfl, HK2.out.c 0 3 rfl rfl⟩
    have f0 := HK2.out.f 0 0 rfl; have f1 := HK2.out.f 0 1 rfl; have f2 := HK2.out.f 0 2 rfl; have f3 := HK2.out.f 0 3 rfl
    have h4 := ((((HK2.out.set 0 0 rfl (.slice A1 lots.length c1)).set 0 1 rfl (.slice Ag gns.length cg)).set 0 2 rfl (.slice As sts.length cs)).set 0 3 rfl (.slice none 0 0)).drew
    have HK4 := Lib.hid h4
    have s1 : ((((W2.setCell ⟨w.heap.size + 1, 0, none⟩ (.slice A1 lots.length c1)).setCell ⟨w.heap.size + 1, 1, none⟩ (.slice Ag gns.length cg)).setCell ⟨w.heap.size + 1, 2, none⟩ (.slice As sts.length cs)).setCell ⟨w.heap.size + 1, 3, none⟩ (.slice none 0 0)).drew.cell? ⟨w.heap.size + 1, 0, none⟩ = some (.slice A1 lots.length c1) ∧ ((((W2.setCell ⟨w.heap.size + 1, 0, none⟩ (.slice A1 lots.length c1)).setCell ⟨w.heap.size + 1, 1, none⟩ (.slice Ag gns.length cg)).setCell ⟨w.heap.size + 1, 2, none⟩ (.slice As sts.length cs)).setCell ⟨w.heap.size + 1, 3, none⟩ (.slice none 0 0)).drew.cell? ⟨w.heap.size + 1, 1, none⟩ = some (.slice Ag gns.length cg) ∧ ((((W2.setCell ⟨w.heap.size + 1, 0, none⟩ (.slice A1 lots.length c1)).setCell ⟨w.heap.size + 1, 1, none⟩ (.slice Ag gns.length cg)).setCell ⟨w.heap.size + 1, 2, none⟩ (.slice As sts.length cs)).setCell ⟨w.heap.size + 1, 3, none⟩ (.slice none 0 0)).drew.cell? ⟨w.heap.size + 1, 2, none⟩ = some (.slice As sts.length cs) ∧ ((((W2.setCell ⟨w.heap.size + 1, 0, none⟩ (.slice A1 lots.length c1)).setCell ⟨w.heap.size + 1, 1, none⟩ (.slice Ag gns.length cg)).setCell ⟨w.heap.size + 1, 2, none⟩ (.slice As sts.length cs)).setCell ⟨w.heap.size + 1, 3, none⟩ (.slice none 0 0)).drew.cell? ⟨w.heap.size + 1, 3, none⟩ = some (.slice none 0 0) := ⟨h4.c 0 0 rfl rfl, h4.c 0 1 rfl rfl, h4.c 0 2 rfl rfl, h4.c 0 3 rfl rfl⟩
    obtain ⟨m0, m1, m2, m3⟩ := s1
    clear h4
    go_upto_region 3 with (fail)
    go_region_held3 (fun X => X.cell? ⟨w.heap.size + 1, 0, none⟩ = some (.slice A1 lots.length c1) ∧ X.cell? ⟨w.heap.size + 1, 1, none⟩ = some (.slice Ag gns.length cg) ∧ X.cell? ⟨w.heap.size + 1, 2, none⟩ = some (.slice As sts.length cs) ∧ X.cell? ⟨w.heap.size + 1, 3, none⟩ = some (.slice none 0 0))
      (first
        | with_reducible exact ⟨m0, m1, m2, m3⟩
        | go_keep)
      (fail)
    all_goals
      go_wp2_with fail
      refine bodyPost_ret (v := .tuple #[.slice none 0 0, .slice none 0 0, .agg #[.slice A1 lots.length c1, .slice Ag gns.length cg, .slice As sts.length cs, .slice none 0 0], .bool false]) (by simp [results, Tryz.results8, go_sem, m0, m1, m2, m3]) rfl ?_
      rw [HPO.out, HNU.out]
      have hbk := HK2.out.at_ 0 rfl
      exact ⟨none, 0, none, 0, A1, c1, Ag, cg, As, cs, rfl, Own.nil, Own.nil, (HO2.out.sets4 hbk (by decide) _ _ _ _).drew, (HG2.out.sets4 hbk (by decide) _ _ _ _).drew, (HT2.out.sets4 hbk (by decide) _ _ _ _).drew, HK4.out.bl⟩
end Go.Proofs.YtndndphfblijpaaGreatDoor
/- Contract of slices.Equal over lots, at equal lists. -/
namespace Go.Proofs.YtndndphfblijpaaGreatDoor
open Go.RowKit Go.Shelf
attribute [local go_sem ↓] Go.wp_at_zero Go.wp_at_succ

set_option maxRecDepth 100000 in
set_option maxHeartbeats 4000000 in
theorem eqLots_same (A A' : Option Addr) (n c c' : Nat) (xs : List Lot) (w : World) (h1 : Lots w w.heap.size A n xs) (h2 : Lots w w.heap.size A' n xs) (hn : n ≤ 1000000) :
    Calls Tryz.prog 28 #[.slice A n c, .slice A' n c'] w fun e w' => e = .returned (.bool true) ∧ Below w.heap.size w w' := by
  have H1 := Lib.hid h1; have H2 := Lib.hid h2
  clear h1 h2
  have hne : ((n : Int) != (n : Int)) = false := by simp
  go_enter Tryz.func28, Tryz.ntmps28
  go_wp2_with fail
  go_loopw [5, 13] (fun _ j wr => ∃ k : Nat, k ≤ n ∧ j = .int .i64 k ∧ Hid (Below w.heap.size w wr)) (fun _ j _ => n - (intOf j).toNat)
  case atStart => exact ⟨0, Nat.zero_le _, rfl, Below.refl _ _⟩
  case round =>
    obtain ⟨k, hk, rfl, HB⟩ := hrel
    by_cases hlt : k < n
    · obtain ⟨b, off, y, rfl, hb, hy, d0, d1, d2, d3, d4, d5, d6⟩ := (H1.out.here HB.out).lot7 hlt
      obtain ⟨b2, off2, z, rfl, hb2, hz, e0, e1, e2, e3, e4, e5, e6⟩ := (H2.out.here HB.out).lot7 hlt
      have hyz : z = y := by rw [hy] at hz; injection hz with hz; exact hz.symm
      subst hyz
      clear hy hz hb hb2
      have i1 : (0 : Int) ≤ (k : Int) := by omega
      have i2 : (k : Int) < (n : Int) := by omega
      go_upto_region 6 with (fail)
      go_region_held3 (fun X => X.cell? ⟨b, off + k * 7, none⟩ = some (.string ⟨z.id.toArray⟩) ∧ X.cell? ⟨b, off + k * 7 + 1, none⟩ = some (.string ⟨z.inst.toArray⟩) ∧ X.cell? ⟨b, off + k * 7 + 2, none⟩ = some (.int .i64 z.acq) ∧ X.cell? ⟨b, off + k * 7 + 3, none⟩ = some (.int .i64 z.opn) ∧ X.cell? ⟨b, off + k * 7 + 4, none⟩ = some (.string ⟨z.q.toArray⟩) ∧ X.cell? ⟨b, off + k * 7 + 5, none⟩ = some (.string ⟨z.c.toArray⟩) ∧ X.cell? ⟨b, off + k * 7 + 6, none⟩ = some (.string ⟨z.u.toArray⟩) ∧ X.cell? ⟨b2, off2 + k * 7, none⟩ = some (.string ⟨z.id.toArray⟩) ∧ X.cell? ⟨b2, off2 + k * 7 + 1, none⟩ = some (.string ⟨z.inst.toArray⟩) ∧ X.cell? ⟨b2, off2 + k * 7 + 2, none⟩ = some (.int .i64 z.acq) ∧ X.cell? ⟨b2, off2 + k * 7 + 3, none⟩ = some (.int .i64 z.opn) ∧ X.cell? ⟨b2, off2 + k * 7 + 4, none⟩ = some (.string ⟨z.q.toArray⟩) ∧ X.cell? ⟨b2, off2 + k * 7 + 5, none⟩ = some (.string ⟨z.c.toArray⟩) ∧ X.cell? ⟨b2, off2 + k * 7 + 6, none⟩ = some (.string ⟨z.u.toArray⟩)) (go_keep) (fail)
      all_goals
        go_wp2_with fail
        exact ⟨⟨k + 1, by omega, by simp, HB.out.drew⟩, by simp [intOf]; omega⟩
    · obtain rfl : k = n := by omega
      go_wp2_with fail
      first | go_ret | skip
      exact ⟨rfl, HB.out⟩
end Go.Proofs.YtndndphfblijpaaGreatDoor
/- The chapter's example of a mapping, plain. -/
namespace Go.Proofs.YtndndphfblijpaaGreatDoor
open Go.RowKit Go.Shelf

theorem txt_of' {n : Nat} {l : List UInt8} (h1 : l.all isDig = true) (h2 : ∀ b t, l = b :: t → (b == 48) = false) (h3 : valD l = n) : txtL (n : Int) = l := by
  rw [txtL_nat, ← h3, digs_valD h1 h2]
theorem hd_ok' {b : UInt8} {t : List UInt8} (h : (b == 48) = false) : ∀ c u, b :: t = c :: u → (c == 48) = false := fun c u e => by injection e with e1 _; rw [← e1]; exact h
def l0 : List Lot := [⟨[97, 47, 49], [97, 98, 99], 1, 2, [49, 48], [49, 48, 48], []⟩, ⟨[98, 47, 49], [97, 98, 99], 3, 3, [53], [56, 48], []⟩]
def m0 : Mp := ⟨[120], 9, [97, 98, 99], [100, 101, 102], ⟨[49], [50]⟩, ⟨[49], []⟩, ⟨[57], []⟩, false⟩
def P0 : Plan := { exact := 15 / 2, parts := 7, part := 1 / 2, moved := 180, taken := 12, cash := 4, n := [5, 2], m := [100, 80], f := [7, 5], p := [3, 1] }
def r0 : List Lot := [⟨[120, 47, 49], [100, 101, 102], 1, 2, [53], [57, 51], [53]⟩, ⟨[120, 47, 50], [100, 101, 102], 3, 3, [50], [55, 53], [50]⟩]
def g0 : List Gain := [⟨[120], [97, 47, 49], [100, 101, 102], 1, 9, [], [51], [55], [], []⟩, ⟨[120], [98, 47, 49], [100, 101, 102], 3, 9, [], [49], [53], [], []⟩]
theorem t1 : txtL 1 = [49] := txt_of' (n := 1) (by decide) (hd_ok' (by decide)) (by decide)
theorem t2 : txtL 2 = [50] := txt_of' (n := 2) (by decide) (hd_ok' (by decide)) (by decide)
theorem t3 : txtL 3 = [51] := txt_of' (n := 3) (by decide) (hd_ok' (by decide)) (by decide)
theorem t5 : txtL 5 = [53] := txt_of' (n := 5) (by decide) (hd_ok' (by decide)) (by decide)
theorem t7 : txtL 7 = [55] := txt_of' (n := 7) (by decide) (hd_ok' (by decide)) (by decide)
theorem t9 : txtL 9 = [57] := txt_of' (n := 9) (by decide) (hd_ok' (by decide)) (by decide)
theorem t10 : txtL 10 = [49, 48] := txt_of' (n := 10) (by decide) (hd_ok' (by decide)) (by decide)
theorem t75 : txtL 75 = [55, 53] := txt_of' (n := 75) (by decide) (hd_ok' (by decide)) (by decide)
theorem t80 : txtL 80 = [56, 48] := txt_of' (n := 80) (by decide) (hd_ok' (by decide)) (by decide)
theorem t93 : txtL 93 = [57, 51] := txt_of' (n := 93) (by decide) (hd_ok' (by decide)) (by decide)
theorem t100 : txtL 100 = [49, 48, 48] := txt_of' (n := 100) (by decide) (hd_ok' (by decide)) (by decide)
theorem d1_ : digs 1 = [49] := by rw [← t1]; exact (txtL_nat 1).symm
theorem d2_ : digs 2 = [50] := by rw [← t2]; exact (txtL_nat 2).symm
theorem up2 {t a b : Int} (h : befB (restL t [a, b]) 0 1 = true) : upL t [a, b] = [0, 1].take (missL t [a, b]).toNat := by
  unfold upL ordL
  rw [show (restL t [a, b]).length = 2 from rfl, show List.range 2 = [0, 1] from rfl, List.mergeSort_of_pairwise (by simpa using h)]
theorem p1 : posL 7 [10, 5] = [5, 2] := by unfold posL; rw [up2 (by decide)]; decide
theorem p2 : posL 180 [100, 80] = [100, 80] := by unfold posL; rw [up2 (by decide)]; decide
theorem p3 : posL 12 [100, 80] = [7, 5] := by unfold posL; rw [up2 (by decide)]; decide
theorem p4 : posL 4 [10, 5] = [3, 1] := by unfold posL; rw [up2 (by decide)]; decide
theorem aw_plan : planL l0 m0 = P0 := by
  have hr : m0.ratio.rat = 1 / 2 := by decide +kernel
  have hs : m0.share.rat = 1 := by decide +kernel
  have hp : m0.price.rat = 9 := by decide +kernel
  have hq : l0.map (fun x => val x.q) = [10, 5] := by decide
  have hc : l0.map (fun x => val x.c) = [100, 80] := by decide
  unfold planL
  simp only [hr, hs, hp, hq, hc]
  have h1 : (((([10, 5] : List Int).sum : Int)) : Rat) * (1 / 2) = 15 / 2 := by decide +kernel
  have h2 : rnd (1 * ((([100, 80] : List Int).sum : Int) : Rat)) = 180 := by decide +kernel
  have h3 : flo (15 / 2 : Rat) = 7 := by decide +kernel
  have h4 : (15 / 2 : Rat) - (((7 : Int)) : Rat) = 1 / 2 := by decide +kernel
  have h5 : rnd ((1 / 2 : Rat) * 9) = 4 := by decide +kernel
  have h6 : (if (1 / 2 : Rat) = 0 then (0 : Int) else if (7 : Int) = 0 then 180 else shrL 180 (flr (15 / 2 : Rat)) (15 / 2 : Rat).num) = 12 := by decide +kernel
  simp only [h1, h2, h3, h4, h5, h6]
  unfold P0 divS
  rw [if_neg (by decide), if_neg (by decide), if_neg (by decide), p1, p2, p3, p4]
  rfl
theorem aw_valid : LotsOk l0 ∧ m0.Ok := by
  refine ⟨⟨by decide, ?_, by decide⟩, ?_⟩
  · intro y hy
    unfold l0 at hy
    simp only [List.mem_cons, List.mem_nil_iff, or_false] at hy
    rcases hy with rfl | rfl
    · exact ⟨by decide, by decide, by decide, by decide, by decide, by unfold canB; rw [show val [49, 48] = 10 by decide, t10]; decide, by unfold canB; rw [show val [49, 48, 48] = 100 by decide, t100]; decide, by decide, by decide, .inl rfl⟩
    · exact ⟨by decide, by decide, by decide, by decide, by decide, by unfold canB; rw [show val [53] = 5 by decide, t5]; decide, by unfold canB; rw [show val [56, 48] = 80 by decide, t80]; decide, by decide, by decide, .inl rfl⟩
  · have hr : m0.ratio.rat = 1 / 2 := by decide +kernel
    have hs : m0.share.rat = 1 := by decide +kernel
    have hp : m0.price.rat = 9 := by decide +kernel
    refine ⟨by decide, by decide, by decide, by decide, ?_, ?_, ?_, ?_, ?_, ?_, ?_, by decide, fun _ => hs⟩
    · unfold Fr.ok
      rw [hr]
      unfold frOf
      rw [show (1 / 2 : Rat).num = 1 by decide +kernel, show (1 / 2 : Rat).den = 2 by decide +kernel, if_neg (by decide), t1, show ((2 : Nat) : Int) = 2 from rfl, t2]
      rfl
    · unfold Fr.ok
      rw [hs]
      unfold frOf
      rw [show (1 : Rat).num = 1 by decide +kernel, show (1 : Rat).den = 1 by decide +kernel, if_pos rfl, t1]
      rfl
    · unfold Fr.ok
      rw [hp]
      unfold frOf
      rw [show (9 : Rat).num = 9 by decide +kernel, show (9 : Rat).den = 1 by decide +kernel, if_pos rfl, t9]
      rfl
    · rw [hr]; decide +kernel
    · rw [hs]; decide +kernel
    · rw [hs]; decide +kernel
    · rw [hp]; decide +kernel
theorem aw_made : madeL m0 P0 l0 = r0 := by
  have e : madeL m0 P0 l0 = [newL m0 P0 2 0 l0[0], newL m0 P0 2 1 l0[1]] := rfl
  rw [e]
  unfold newL newId
  rw [show cntN P0.n 0 = 0 by decide, show cntN P0.n 1 = 1 by decide, show P0.n.getD 0 0 = 5 from rfl, show P0.n.getD 1 0 = 2 from rfl, show P0.mv 0 = 93 by decide, show P0.mv 1 = 75 by decide, show P0.rest 2 = 0 by decide]
  simp only [Nat.zero_add, Nat.reduceAdd, Int.add_zero, if_true, if_false, Nat.one_ne_zero, d1_, d2_, t5, t2, t93, t75]
  rfl
theorem aw_map : mapL l0 m0 = (⟨r0, g0, stpL m0 P0 l0⟩, 0) := by
  obtain ⟨hl, hm⟩ := aw_valid
  have ho : lotsOf l0 m0.inst = l0 := by decide
  unfold mapL
  rw [if_neg (show ¬ (allC l0 ≠ 0 ∨ mpC m0 ≠ 0) from fun h => h.elim (fun h => h ((allC_ok _).2 hl)) (fun h => h ((mpC_ok _).2 hm)))]
  simp only [ho, aw_plan, aw_made]
  rw [if_neg (by decide), if_neg (by decide)]
  have hk : keptL m0 P0.m 0 l0 = [] := by decide
  have hg : gainL m0 P0 l0 = g0 := by
    unfold gainL
    rw [if_neg (show ¬ P0.part = 0 by decide +kernel)]
    have e : gainTo m0 P0 l0 l0.length = [⟨[120], [97, 47, 49], [100, 101, 102], 1, 9, [], txtL 3, txtL 7, [], []⟩, ⟨[120], [98, 47, 49], [100, 101, 102], 3, 9, [], txtL 1, txtL 5, [], []⟩] := rfl
    rw [e, t3, t7, t1, t5]
    rfl
  have hno : LotsOk ([] : List Lot) := ⟨by decide, fun _ h => (by cases h), by decide⟩
  have hr : ∀ z ∈ r0, z.Ok := by
    intro z hz
    unfold r0 at hz
    simp only [List.mem_cons, List.mem_nil_iff, or_false] at hz
    rcases hz with rfl | rfl
    · exact ⟨by decide, by decide, by decide, by decide, by decide, by unfold canB; rw [show val [53] = 5 by decide, t5]; decide, by unfold canB; rw [show val [57, 51] = 93 by decide, t93]; decide, by decide, by decide, .inr rfl⟩
    · exact ⟨by decide, by decide, by decide, by decide, by decide, by unfold canB; rw [show val [50] = 2 by decide, t2]; decide, by unfold canB; rw [show val [55, 53] = 75 by decide, t75]; decide, by decide, by decide, .inr rfl⟩
  rw [hk, hg]
  have h := openAll_eq [100, 101, 102] r0 [] [] ⟨fun _ h => (by cases h), .inl rfl⟩ hno (fun z hz => ⟨hr z hz, by unfold r0 at hz; simp only [List.mem_cons, List.mem_nil_iff, or_false] at hz; rcases hz with rfl | rfl <;> rfl, by simp⟩) (by decide)
  simp only [List.nil_append, List.append_nil] at h
  rw [if_pos (.inr (by decide))] at h
  rw [h]
end Go.Proofs.YtndndphfblijpaaGreatDoor
