/- Contract of the statements' numbers. -/
import Derived.Test.YtbnfgbcgpbdpcaaGreatDoorMwqGW
import Derived.Deep.RegionHeld3
import Derived.Deep.DrawnRows
import Derived.Deep.DeepCutAuto
namespace Go.Proofs.YtbnfgbcgpbdpcaaGreatDoor
open Go.RowKit Go.Shelf
attribute [local go_sem ↓] Go.wp_at_zero Go.wp_at_succ

/-- What numbers gives. -/
def numL (ls : List Lot) (m : Mp) : List Lot × List Lot × Res × Bool :=
  if (mapL ls m).2 = 0 then (lotsOf ls m.inst, newOf ls (mapL ls m).1.lots, (mapL ls m).1, true) else ([], [], (mapL ls m).1, false)
def NumPost (r : List Lot × List Lot × Res × Bool) (w : World) (e : Ending) (w' : World) : Prop :=
  ∃ Ao co Am cm A c Ag cg As cs, e = .returned (.tuple #[.slice Ao r.1.length co, .slice Am r.2.1.length cm, .agg #[.slice A r.2.2.1.lots.length c, .slice Ag r.2.2.1.gains.length cg, .slice As r.2.2.1.steps.length cs, .slice none 0 0], .bool r.2.2.2]) ∧
    Own L7 7 39 w' w.heap.size (.slice Ao r.1.length co) r.1 ∧ Own L7 7 39 w' w.heap.size (.slice Am r.2.1.length cm) r.2.1 ∧ Own L7 7 39 w' w.heap.size (.slice A r.2.2.1.lots.length c) r.2.2.1.lots ∧
    Own G10 10 54 w' w.heap.size (.slice Ag r.2.2.1.gains.length cg) r.2.2.1.gains ∧ Own S6 6 44 w' w.heap.size (.slice As r.2.2.1.steps.length cs) r.2.2.1.steps ∧ Below w.heap.size w w'
theorem Own.sets4 {α : Type} {enc : α → List Value} {k base : Nat} {e : TypeId} {v : Value} {xs : List α} {X : World} {p : Nat} {cs : Array Value} {T : TypeId} (h : Own enc k e X base v xs) (hb : BlkB X p cs T) (hn : e ≠ T) (a b c d : Value) :
    Own enc k e ((((X.setCell ⟨p, 0, none⟩ a).setCell ⟨p, 1, none⟩ b).setCell ⟨p, 2, none⟩ c).setCell ⟨p, 3, none⟩ d) base v xs :=
  (((h.farB hb hn 0 a).farB (hb.set 0 a) hn 1 b).farB ((hb.set 0 a).set 1 b) hn 2 c).farB (((hb.set 0 a).set 1 b).set 2 c) hn 3 d
theorem newOf_snoc (ls l : List Lot) (y : Lot) : newOf ls (l ++ [y]) = newOf ls l ++ if y.id ∈ ls.map (·.id) then [] else [y] := by
  unfold newOf
  rw [List.filter_append]
  congr 1
  by_cases h : y.id ∈ ls.map (·.id)
  · rw [if_pos h, List.filter_cons_of_neg (by simpa using h)]; rfl
  · rw [if_neg h, List.filter_cons_of_pos (by simpa using h)]; rfl
theorem newOf_len (ls l : List Lot) : (newOf ls l).length ≤ l.length := List.length_filter_le _ _
set_option maxRecDepth 100000 in
set_option maxHeartbeats 8000000 in
theorem numbers_any (A : Option Addr) (n c : Nat) (ls : List Lot) (m : Mp) (w : World) (L : Nat) (hp : Env w) (hs : Lots w w.heap.size A n ls) (hnil : (A = none ∧ c = 0) ∨ ∃ a, A = some a) (hn : n ≤ 100000) (hl : ∀ y ∈ ls, y.Sz 50000) (hm : m.Sz 5000 ∨ m.Bad)
    (hL : L ≤ 100) (hL1 : 1 ≤ L) (hq : ∀ y ∈ ls, y.q.length ≤ L) (hc : ∀ y ∈ ls, y.c.length ≤ L) (hr : m.ratio.Sz L) (hsh : m.share.Sz L) (hpr : m.price.Sz L) :
    Calls Tryz.prog 9 #[.slice A n c, MpV m] w (NumPost (numL ls m) w) := by
  obtain ⟨post, hpost⟩ : ∃ post, post = NumPost (numL ls m) w := ⟨_, rfl⟩
  rw [← hpost]
  have HPO := Lib.hid hpost
  clear hpost
  have HMP := Lib.hid (fun W (hb : Below w.heap.size w W) => map_any A n c ls m W L (hp.here hb) (hs.here hb) hnil hn hl hm hL hL1 hq hc hr hsh hpr)
  have HNU := Lib.hid (show numL ls m = if (mapL ls m).2 = 0 then (lotsOf ls m.inst, newOf ls (mapL ls m).1.lots, (mapL ls m).1, true) else ([], [], (mapL ls m).1, false) from rfl)
  have HRL := Lib.hid (show (mapL ls m).2 = 0 → (mapL ls m).1.lots.length ≤ 1000 from fun h => by
    rcases mapL_case ls m with ⟨e, he, h'⟩ | ⟨h1, h2, h3, h'⟩ | ⟨X, Y, hM, h'⟩
    · rw [h'] at h; exact absurd h he
    · rw [h']; exact h1.len
    · rw [h']; exact hM.len)
  generalize numL ls m = nu at *
  generalize mapL ls m = res at *
  have HK0 := Lib.hid (show Kp w [(w.heap.size + 1, #[.slice none 0 0, .slice none 0 0, .slice none 0 0, .slice none 0 0], 35), (w.heap.size, #[.string ⟨m.cause.toArray⟩, .int .i64 m.day, .string ⟨m.inst.toArray⟩, .string ⟨m.other.toArray⟩, .string ⟨m.ratio.n.toArray⟩, .string ⟨m.ratio.d.toArray⟩, .string ⟨m.share.n.toArray⟩, .string ⟨m.share.d.toArray⟩, .string ⟨m.price.n.toArray⟩, .string ⟨m.price.d.toArray⟩, .bool m.keep], 28)] ((w.alloc (.cells #[.string ⟨m.cause.toArray⟩, .int .i64 m.day, .string ⟨m.inst.toArray⟩, .string ⟨m.other.toArray⟩, .string ⟨m.ratio.n.toArray⟩, .string ⟨m.ratio.d.toArray⟩, .string ⟨m.share.n.toArray⟩, .string ⟨m.share.d.toArray⟩, .string ⟨m.price.n.toArray⟩, .string ⟨m.price.d.toArray⟩, .bool m.keep] 28)).alloc (.cells #[.slice none 0 0, .slice none 0 0, .slice none 0 0, .slice none 0 0] 35)) from ((Kp.start hp).new w.heap.size rfl _ _).new (w.heap.size + 1) (by simp) _ _)
  have HP := Lib.hid hp; have HS := Lib.hid hs; have HN := Lib.hid hn
  have HLO := Lib.hid (fun W (hb : Below w.heap.size w W) => lotOf_any A n c ls m.inst W (hs.here hb) (by omega))
  clear hp hs hnil hn hl hm hL hL1 hq hc hr hsh hpr
  unfold MpV
  rw [mpA_eq]
  unfold MpV at HMP
  rw [mpA_eq] at HMP
  unfold S at HLO
  obtain ⟨z0, z1, z2, z3, z4, z5, z6, z7, z8, z9, z10⟩ := mp11 HK0.out (m := m) (i := 1) rfl
  go_enter Tryz.func9, Tryz.ntmps9
  go_wp2_with fail
  generalize ((w.alloc (.cells #[.string ⟨m.cause.toArray⟩, .int .i64 m.day, .string ⟨m.inst.toArray⟩, .string ⟨m.other.toArray⟩, .string ⟨m.ratio.n.toArray⟩, .string ⟨m.ratio.d.toArray⟩, .string ⟨m.share.n.toArray⟩, .string ⟨m.share.d.toArray⟩, .string ⟨m.price.n.toArray⟩, .string ⟨m.price.d.toArray⟩, .bool m.keep] 28)).alloc (.cells #[.slice none 0 0, .slice none 0 0, .slice none 0 0, .slice none 0 0] 35)) = W0 at *
  refine (HMP.out _ HK0.out.bl).mono ?_
  rintro e w1 ⟨A1, c1, Ag, cg, As, cs, rfl, oL, oG, oS, hb1⟩
  have HK1 := Lib.hid (HK0.out.here hb1)
  have HO1 := Lib.hid (oL.base_ HK0.out.bl.size); have HG1 := Lib.hid (oG.base_ HK0.out.bl.size); have HT1 := Lib.hid (oS.base_ HK0.out.bl.size)
  clear oL oG oS hb1 HK0 HMP z0 z1 z2 z3 z4 z5 z6 z7 z8 z9 z10
  obtain ⟨lots, hlots⟩ : ∃ l, l = res.1.lots := ⟨_, rfl⟩
  obtain ⟨gns, hgns⟩ : ∃ l, l = res.1.gains := ⟨_, rfl⟩
  obtain ⟨sts, hsts⟩ : ∃ l, l = res.1.steps := ⟨_, rfl⟩
  rw [← hlots] at HO1 HNU HRL ⊢
  rw [← hgns] at HG1 ⊢
  rw [← hsts] at HT1 ⊢
  have HR1 := Lib.hid (show res.1 = ⟨lots, gns, sts⟩ by rw [hlots, hgns, hsts])
  clear hlots hgns hsts
  have n0 := HK1.out.c 0 0 rfl rfl; have n1 := HK1.out.c 0 1 rfl rfl; have n2 := HK1.out.c 0 2 rfl rfl; have n3 := HK1.out.c 0 3 rfl rfl
  have f0 := HK1.out.f 0 0 rfl; have f1 := HK1.out.f 0 1 rfl; have f2 := HK1.out.f 0 2 rfl; have f3 := HK1.out.f 0 3 rfl
  have HK2 := Lib.hid (show Kp w [(w.heap.size + 1, #[.slice A1 lots.length c1, .slice Ag gns.length cg, .slice As sts.length cs, .slice none 0 0], 35), (w.heap.size, #[.string ⟨m.cause.toArray⟩, .int .i64 m.day, .string ⟨m.inst.toArray⟩, .string ⟨m.other.toArray⟩, .string ⟨m.ratio.n.toArray⟩, .string ⟨m.ratio.d.toArray⟩, .string ⟨m.share.n.toArray⟩, .string ⟨m.share.d.toArray⟩, .string ⟨m.price.n.toArray⟩, .string ⟨m.price.d.toArray⟩, .bool m.keep], 28)] (((((w1.setCell ⟨w.heap.size + 1, 0, none⟩ (.slice A1 lots.length c1)).setCell ⟨w.heap.size + 1, 1, none⟩ (.slice Ag gns.length cg)).setCell ⟨w.heap.size + 1, 2, none⟩ (.slice As sts.length cs)).setCell ⟨w.heap.size + 1, 3, none⟩ (.slice none 0 0))) from (((HK1.out.set 0 0 rfl (.slice A1 lots.length c1)).set 0 1 rfl (.slice Ag gns.length cg)).set 0 2 rfl (.slice As sts.length cs)).set 0 3 rfl (.slice none 0 0))
  have hb1 := HK1.out.at_ 0 rfl
  have HO2 := Lib.hid ((((HO1.out.farB hb1 (by decide) 0 (.slice A1 lots.length c1)).farB (hb1.set 0 _) (by decide) 1 (.slice Ag gns.length cg)).farB ((hb1.set 0 _).set 1 _) (by decide) 2 (.slice As sts.length cs)).farB (((hb1.set 0 _).set 1 _).set 2 _) (by decide) 3 (.slice none 0 0))
  have HG2 := Lib.hid ((((HG1.out.farB hb1 (by decide) 0 (.slice A1 lots.length c1)).farB (hb1.set 0 _) (by decide) 1 (.slice Ag gns.length cg)).farB ((hb1.set 0 _).set 1 _) (by decide) 2 (.slice As sts.length cs)).farB (((hb1.set 0 _).set 1 _).set 2 _) (by decide) 3 (.slice none 0 0))
  have HT2 := Lib.hid ((((HT1.out.farB hb1 (by decide) 0 (.slice A1 lots.length c1)).farB (hb1.set 0 _) (by decide) 1 (.slice Ag gns.length cg)).farB ((hb1.set 0 _).set 1 _) (by decide) 2 (.slice As sts.length cs)).farB (((hb1.set 0 _).set 1 _).set 2 _) (by decide) 3 (.slice none 0 0))
  clear hb1
  obtain ⟨er, her⟩ : ∃ er, er = res.2 := ⟨_, rfl⟩
  rw [← her] at HNU HRL ⊢
  clear her
  go_upto_if 20 with (fail)
  clear n0 n1 n2 n3 f0 f1 f2 f3 HK1 HO1 HG1 HT1
  generalize ((((w1.setCell ⟨w.heap.size + 1, 0, none⟩ (.slice A1 lots.length c1)).setCell ⟨w.heap.size + 1, 1, none⟩ (.slice Ag gns.length cg)).setCell ⟨w.heap.size + 1, 2, none⟩ (.slice As sts.length cs)).setCell ⟨w.heap.size + 1, 3, none⟩ (.slice none 0 0)) = W2 at *
  by_cases h0 : er = 0
  · subst h0
    rw [if_pos rfl, HR1.out] at HNU
    have HLL := Lib.hid (HRL.out rfl)
    clear HRL
    have n0 := HK2.out.c 0 0 rfl rfl
    rw [show ((0 : Int) != 0) = false from rfl]
    go_wp2_with fail
    go_loopw [5, 10, 11, 12, 25] (fun s _ _ _ j wr => ∃ (k : Nat) (A3 : Option Addr) (c3 : Nat), k ≤ lots.length ∧ j = .int .i64 k ∧ s = .slice A3 (newOf ls (lots.take k)).length c3 ∧ Hid (Own L7 7 39 wr W2.heap.size (.slice A3 (newOf ls (lots.take k)).length c3) (newOf ls (lots.take k))) ∧ Hid (Below W2.heap.size W2 wr)) (fun _ _ _ _ j _ => lots.length - (intOf j).toNat)
    case atStart => exact ⟨0, none, 0, Nat.zero_le _, rfl, rfl, Own.nil, Below.refl _ _⟩
    case round =>
      clear n0
      obtain ⟨k, A3, c3, hk, rfl, rfl, HOW, HBR⟩ := hrel
      have HKW := Lib.hid (HK2.out.here HBR.out)
      have hll := HLL.out
      by_cases hlt : k < lots.length
      · obtain ⟨b, off, y, rfl, hb, hy, d0, d1, d2, d3, d4, d5, d6⟩ := ((HO2.out.below HBR.out).sl L7_len).lot7 hlt
        have HTK := Lib.hid (show newOf ls (lots.take (k + 1)) = newOf ls (lots.take k) ++ if y.id ∈ ls.map (·.id) then [] else [y] by
          obtain ⟨h1, h2⟩ := List.getElem?_eq_some_iff.1 hy
          rw [List.take_succ_eq_append_getElem h1, h2, newOf_snoc])
        have HFM := Lib.hid (fnd_mem ls y.id)
        have HA1 := Lib.hid (HBR.out.alloc HBR.out.size (.cells #[.string ⟨y.id.toArray⟩, .string ⟨y.inst.toArray⟩, .int .i64 y.acq, .int .i64 y.opn, .string ⟨y.q.toArray⟩, .string ⟨y.c.toArray⟩, .string ⟨y.u.toArray⟩] 39))
        have HW1 := Lib.hid (HOW.out.alloc (.cells #[.string ⟨y.id.toArray⟩, .string ⟨y.inst.toArray⟩, .int .i64 y.acq, .int .i64 y.opn, .string ⟨y.q.toArray⟩, .string ⟨y.c.toArray⟩, .string ⟨y.u.toArray⟩] 39))
        have HFD := Lib.hid (find_any A n c ls y.id (wr.alloc (.cells #[.string ⟨y.id.toArray⟩, .string ⟨y.inst.toArray⟩, .int .i64 y.acq, .int .i64 y.opn, .string ⟨y.q.toArray⟩, .string ⟨y.c.toArray⟩, .string ⟨y.u.toArray⟩] 39)) (HS.out.here (HKW.out.alloc _).bl) (by have := HN.out; omega))
        have HYB := Lib.hid (show BlkB (wr.alloc (.cells #[.string ⟨y.id.toArray⟩, .string ⟨y.inst.toArray⟩, .int .i64 y.acq, .int .i64 y.opn, .string ⟨y.q.toArray⟩, .string ⟨y.c.toArray⟩, .string ⟨y.u.toArray⟩] 39)) wr.heap.size #[.string ⟨y.id.toArray⟩, .string ⟨y.inst.toArray⟩, .int .i64 y.acq, .int .i64 y.opn, .string ⟨y.q.toArray⟩, .string ⟨y.c.toArray⟩, .string ⟨y.u.toArray⟩] 39 from heap_alloc_new wr _)
        have HLK := Lib.hid (show (newOf ls (lots.take k)).length + 1 ≤ 100000000000 from Nat.le_trans (Nat.succ_le_succ (newOf_len ls (lots.take k))) (by rw [List.length_take]; have := HLL.out; omega))
        unfold S at HFD
        generalize max (fndI ls y.id) 0 = mx at *
        generalize decide (0 ≤ fndI ls y.id) = fb at *
        clear hy hk
        go_wp2_with fail
        generalize wr.alloc (.cells #[.string ⟨y.id.toArray⟩, .string ⟨y.inst.toArray⟩, .int .i64 y.acq, .int .i64 y.opn, .string ⟨y.q.toArray⟩, .string ⟨y.c.toArray⟩, .string ⟨y.u.toArray⟩] 39) = Wy at *
        refine HFD.out.mono ?_
        rintro e w5 ⟨rfl, hb5⟩
        have HB5 := Lib.hid (HA1.out.trans (hb5.mono HA1.out.size))
        have HW5 := Lib.hid (HW1.out.below hb5)
        have HY5 := Lib.hid (HYB.out.here hb5)
        clear hb5 d0 d1 d2 d3 d4 d5 d6
        cases fb with
        | true =>
          have HNE := Lib.hid (show newOf ls (lots.take (k + 1)) = newOf ls (lots.take k) by rw [HTK.out, if_pos (by simpa using HFM.out), List.append_nil])
          go_wp2_with fail
          go_roundw
          case rel => exact ⟨k + 1, A3, c3, by omega, by go_num, by rw [HNE.out], (show Own _ _ _ _ _ _ _ by rw [HNE.out]; exact HW5.out), HB5.out⟩
          case measure => simp [intOf]; omega
        | false =>
          have HNE := Lib.hid (show newOf ls (lots.take (k + 1)) = newOf ls (lots.take k) ++ [y] by rw [HTK.out, if_neg (by simpa using HFM.out)])
          obtain ⟨d0, d1, d2, d3, d4, d5, d6⟩ := s7b HY5.out
          have HA2 := Lib.hid (HB5.out.alloc HB5.out.size (.cells #[.string ⟨y.id.toArray⟩, .string ⟨y.inst.toArray⟩, .int .i64 y.acq, .int .i64 y.opn, .string ⟨y.q.toArray⟩, .string ⟨y.c.toArray⟩, .string ⟨y.u.toArray⟩] 39))
          have HO3 := Lib.hid (HW5.out.alloc (.cells #[.string ⟨y.id.toArray⟩, .string ⟨y.inst.toArray⟩, .int .i64 y.acq, .int .i64 y.opn, .string ⟨y.q.toArray⟩, .string ⟨y.c.toArray⟩, .string ⟨y.u.toArray⟩] 39))
          have HL1 := Lib.hid (lots1 (y := y) (show BlkB (w5.alloc (.cells #[.string ⟨y.id.toArray⟩, .string ⟨y.inst.toArray⟩, .int .i64 y.acq, .int .i64 y.opn, .string ⟨y.q.toArray⟩, .string ⟨y.c.toArray⟩, .string ⟨y.u.toArray⟩] 39)) w5.heap.size (lotC7 y) 39 from heap_alloc_new w5 _))
          generalize hkl : newOf ls (lots.take k) = kl at *
          have HKL := Lib.hid hkl
          clear hkl
          go_wp2_with (at_builtin; refine wpList_app _ rfl (.tmp 38) (.tmp 40) _ rfl elemLots L7_len L7_cell (base := W2.heap.size) (.slice A3 _ c3) kl rfl HO3.out _ _ 1 1 [y] rfl HL1.out HLK.out HA2.out.size ?_
                       intro A4 c4 w6 ho4 hg4 _)
          go_roundw
          case rel =>
            have hl : (newOf ls (lots.take (k + 1))).length = kl.length + 1 := by rw [HNE.out]; simp
            exact ⟨k + 1, A4, c4, by omega, by go_num, by rw [hl], (show Own _ _ _ _ _ _ _ by rw [hl, HNE.out]; exact ho4), below_grown HA2.out hg4 HA2.out.size (fun g hg => own_ge HO3.out hg)⟩
          case measure => simp [intOf]; omega
      · obtain rfl : k = lots.length := by omega
        have HTA := Lib.hid (show lots.take lots.length = lots from List.take_of_length_le (Nat.le_refl _))
        rw [HTA.out] at HOW ⊢
        go_upto_region 11 with (fail)
        have HS5 := Lib.hid (show ∀ X, Below wr.heap.size wr X → X.cell? ⟨w.heap.size, 2, none⟩ = some (.string ⟨m.inst.toArray⟩) ∧ X.cell? ⟨w.heap.size + 1, 0, none⟩ = some (.slice A1 lots.length c1) ∧ X.cell? ⟨w.heap.size + 1, 1, none⟩ = some (.slice Ag gns.length cg) ∧ X.cell? ⟨w.heap.size + 1, 2, none⟩ = some (.slice As sts.length cs) ∧ X.cell? ⟨w.heap.size + 1, 3, none⟩ = some (.slice none 0 0) from fun X hX =>
          ⟨(HKW.out.here hX).c 1 2 rfl rfl, (HKW.out.here hX).c 0 0 rfl rfl, (HKW.out.here hX).c 0 1 rfl rfl, (HKW.out.here hX).c 0 2 rfl rfl, (HKW.out.here hX).c 0 3 rfl rfl⟩)
        have HS6 := Lib.hid (show ∀ Y, Below wr.heap.size wr Y → (((((Y.setCell ⟨w.heap.size + 1, 0, none⟩ (.slice A1 lots.length c1)).setCell ⟨w.heap.size + 1, 1, none⟩ (.slice Ag gns.length cg)).setCell ⟨w.heap.size + 1, 2, none⟩ (.slice As sts.length cs)).setCell ⟨w.heap.size + 1, 3, none⟩ (.slice none 0 0)).cell? ⟨w.heap.size, 2, none⟩ = some (.string ⟨m.inst.toArray⟩) ∧ ((((Y.setCell ⟨w.heap.size + 1, 0, none⟩ (.slice A1 lots.length c1)).setCell ⟨w.heap.size + 1, 1, none⟩ (.slice Ag gns.length cg)).setCell ⟨w.heap.size + 1, 2, none⟩ (.slice As sts.length cs)).setCell ⟨w.heap.size + 1, 3, none⟩ (.slice none 0 0)).cell? ⟨w.heap.size + 1, 0, none⟩ = some (.slice A1 lots.length c1) ∧ ((((Y.setCell ⟨w.heap.size + 1, 0, none⟩ (.slice A1 lots.length c1)).setCell ⟨w.heap.size + 1, 1, none⟩ (.slice Ag gns.length cg)).setCell ⟨w.heap.size + 1, 2, none⟩ (.slice As sts.length cs)).setCell ⟨w.heap.size + 1, 3, none⟩ (.slice none 0 0)).cell? ⟨w.heap.size + 1, 1, none⟩ = some (.slice Ag gns.length cg) ∧ ((((Y.setCell ⟨w.heap.size + 1, 0, none⟩ (.slice A1 lots.length c1)).setCell ⟨w.heap.size + 1, 1, none⟩ (.slice Ag gns.length cg)).setCell ⟨w.heap.size + 1, 2, none⟩ (.slice As sts.length cs)).setCell ⟨w.heap.size + 1, 3, none⟩ (.slice none 0 0)).cell? ⟨w.heap.size + 1, 2, none⟩ = some (.slice As sts.length cs) ∧ ((((Y.setCell ⟨w.heap.size + 1, 0, none⟩ (.slice A1 lots.length c1)).setCell ⟨w.heap.size + 1, 1, none⟩ (.slice Ag gns.length cg)).setCell ⟨w.heap.size + 1, 2, none⟩ (.slice As sts.length cs)).setCell ⟨w.heap.size + 1, 3, none⟩ (.slice none 0 0)).cell? ⟨w.heap.size + 1, 3, none⟩ = some (.slice none 0 0)) from fun Y hY =>
          have h := ((((HKW.out.here hY).set 0 0 rfl (.slice A1 lots.length c1)).set 0 1 rfl (.slice Ag gns.length cg)).set 0 2 rfl (.slice As sts.length cs)).set 0 3 rfl (.slice none 0 0)
          ⟨h.c 1 2 rfl rfl, h.c 0 0 rfl rfl, h.c 0 1 rfl rfl, h.c 0 2 rfl rfl, h.c 0 3 rfl rfl⟩)
        go_cut [4, 5, 7] (fun s t b wc => ∃ Ao co, s = .slice Ao (lotsOf ls m.inst).length co ∧ t = .slice A3 (newOf ls lots).length c3 ∧ b = .bool true ∧ Hid (Own L7 7 39 wc w.heap.size (.slice Ao (lotsOf ls m.inst).length co) (lotsOf ls m.inst)) ∧ Hid (Kp w [(w.heap.size + 1, #[.slice A1 lots.length c1, .slice Ag gns.length cg, .slice As sts.length cs, .slice none 0 0], 35), (w.heap.size, #[.string ⟨m.cause.toArray⟩, .int .i64 m.day, .string ⟨m.inst.toArray⟩, .string ⟨m.other.toArray⟩, .string ⟨m.ratio.n.toArray⟩, .string ⟨m.ratio.d.toArray⟩, .string ⟨m.share.n.toArray⟩, .string ⟨m.share.d.toArray⟩, .string ⟨m.price.n.toArray⟩, .string ⟨m.price.d.toArray⟩, .bool m.keep], 28)] wc) ∧ Hid (∃ Y, Below wr.heap.size wr Y ∧ wc = ((((Y.setCell ⟨w.heap.size + 1, 0, none⟩ (.slice A1 lots.length c1)).setCell ⟨w.heap.size + 1, 1, none⟩ (.slice Ag gns.length cg)).setCell ⟨w.heap.size + 1, 2, none⟩ (.slice As sts.length cs)).setCell ⟨w.heap.size + 1, 3, none⟩ (.slice none 0 0))))
        case first =>
          have b0 : Below wr.heap.size wr wr.drew := (Below.refl _ _).drew
          have s0 := HS5.out _ b0
          have s0s := HS6.out _ b0
          obtain ⟨s00, s01, s02, s03, s04⟩ := HS5.out _ (Below.refl _ wr)
          have f0 := HKW.out.f 0 0 rfl; have f1 := HKW.out.f 0 1 rfl; have f2 := HKW.out.f 0 2 rfl; have f3 := HKW.out.f 0 3 rfl
          unfold RetOwn at HLO
          go_region_held3 (fun X => X.cell? ⟨w.heap.size, 2, none⟩ = some (.string ⟨m.inst.toArray⟩) ∧ X.cell? ⟨w.heap.size + 1, 0, none⟩ = some (.slice A1 lots.length c1) ∧ X.cell? ⟨w.heap.size + 1, 1, none⟩ = some (.slice Ag gns.length cg) ∧ X.cell? ⟨w.heap.size + 1, 2, none⟩ = some (.slice As sts.length cs) ∧ X.cell? ⟨w.heap.size + 1, 3, none⟩ = some (.slice none 0 0))
            (first
              | with_reducible exact HS6.out _ b1
              | with_reducible exact HS5.out _ b1
              | with_reducible exact s0s
              | with_reducible exact s0
              | go_keep)
            (first
              | (go_at_call 32; refine (HLO.out _ (HKW.out.bl.trans (b0.mono HKW.out.bl.size))).mono ?_; rintro e y1 ⟨Ao, co, rfl, ho, hy⟩
                 have b1 := b0.trans (hy.mono b0.size)
                 have g0 := (HKW.out.here b1).f 0 0 rfl; have g1 := (HKW.out.here b1).f 0 1 rfl; have g2 := (HKW.out.here b1).f 0 2 rfl; have g3 := (HKW.out.here b1).f 0 3 rfl
                 have ho1 := ho.base_ (Nat.le_trans HKW.out.bl.size b0.size)
                 clear ho hy))
          all_goals
            go_wp2_with fail
            go_meet
            exact ⟨Ao, co, rfl, rfl, rfl, ho1.sets4 ((HKW.out.here b1).at_ 0 rfl) (by decide) _ _ _ _, ((((HKW.out.here b1).set 0 0 rfl _).set 0 1 rfl _).set 0 2 rfl _).set 0 3 rfl _, ⟨y1, b1, rfl⟩⟩
        case rest =>
        obtain ⟨Ao, co, rfl, rfl, rfl, HOO, HKF, HEX⟩ := hcut
        have m0 := HKF.out.c 0 0 rfl rfl; have m1 := HKF.out.c 0 1 rfl rfl; have m2 := HKF.out.c 0 2 rfl rfl; have m3 := HKF.out.c 0 3 rfl rfl
        go_wp2_with fail
        refine bodyPost_ret (v := .tuple #[.slice Ao (lotsOf ls m.inst).length co, .slice A3 (newOf ls lots).length c3, .agg #[.slice A1 lots.length c1, .slice Ag gns.length cg, .slice As sts.length cs, .slice none 0 0], .bool true]) (by simp [results, Tryz.results9, go_sem, m0, m1, m2, m3]) rfl ?_
        rw [HPO.out, HNU.out]
        obtain ⟨Y, hY, rfl⟩ := HEX.out
        have hbk := (HKW.out.here hY).at_ 0 rfl
        exact ⟨Ao, co, A3, c3, A1, c1, Ag, cg, As, cs, rfl, HOO.out, ((HOW.out.below hY).sets4 hbk (by decide) _ _ _ _).base_ HK2.out.bl.size, ((HO2.out.below HBR.out).below hY).sets4 hbk (by decide) _ _ _ _, ((HG2.out.below HBR.out).below hY).sets4 hbk (by decide) _ _ _ _, ((HT2.out.below HBR.out).below hY).sets4 hbk (by decide) _ _ _ _, HKF.out.bl⟩
  · have hne : (er != 0) = true := by simpa using h0
    rw [if_neg h0, HR1.out] at HNU
    clear h0 HRL
    obtain ⟨n0, n1, n2, n3⟩ : W2.cell? ⟨w.heap.size + 1, 0, none⟩ = some (.slice A1 lots.length c1) ∧ W2.cell? ⟨w.heap.size + 1, 1, none⟩ = some (.slice Ag gns.length cg) ∧ W2.cell? ⟨w.heap.size + 1, 2, none⟩ = some (.slice As sts.length cs) ∧ W2.cell? ⟨w.heap.size + 1, 3, none⟩ = some (.slice none 0 0) := ⟨HK2.out.c 0 0 rfl rfl, HK2.out.c 0 1 rfl rfl, HK2.out.c 0 2 rfl rfl, HK2.out.c 0 3 rfl rfl⟩
    have f0 := HK2.out.f 0 0 rfl; have f1 := HK2.out.f 0 1 rfl; have f2 := HK2.out.f 0 2 rfl; have f3 := HK2.out.f 0 3 rfl
    have h4 := ((((HK2.out.set 0 0 rfl (.slice A1 lots.length c1)).set 0 1 rfl (.slice Ag gns.length cg)).set 0 2 rfl (.slice As sts.length cs)).set 0 3 rfl (.slice none 0 0)).drew
    have HK4 := Lib.hid h4
    have s1 : ((((W2.setCell ⟨w.heap.size + 1, 0, none⟩ (.slice A1 lots.length c1)).setCell ⟨w.heap.size + 1, 1, none⟩ (.slice Ag gns.length cg)).setCell ⟨w.heap.size + 1, 2, none⟩ (.slice As sts.length cs)).setCell ⟨w.heap.size + 1, 3, none⟩ (.slice none 0 0)).drew.cell? ⟨w.heap.size + 1, 0, none⟩ = some (.slice A1 lots.length c1) ∧ ((((W2.setCell ⟨w.heap.size + 1, 0, none⟩ (.slice A1 lots.length c1)).setCell ⟨w.heap.size + 1, 1, none⟩ (.slice Ag gns.length cg)).setCell ⟨w.heap.size + 1, 2, none⟩ (.slice As sts.length cs)).setCell ⟨w.heap.size + 1, 3, none⟩ (.slice none 0 0)).drew.cell? ⟨w.heap.size + 1, 1, none⟩ = some (.slice Ag gns.length cg) ∧ ((((W2.setCell ⟨w.heap.size + 1, 0, none⟩ (.slice A1 lots.length c1)).setCell ⟨w.heap.size + 1, 1, none⟩ (.slice Ag gns.length cg)).setCell ⟨w.heap.size + 1, 2, none⟩ (.slice As sts.length cs)).setCell ⟨w.heap.size + 1, 3, none⟩ (.slice none 0 0)).drew.cell? ⟨w.heap.size + 1, 2, none⟩ = some (.slice As sts.length cs) ∧ ((((W2.setCell ⟨w.heap.size + 1, 0, none⟩ (.slice A1 lots.length c1)).setCell ⟨w.heap.size + 1, 1, none⟩ (.slice Ag gns.length cg)).setCell ⟨w.heap.size + 1, 2, none⟩ (.slice As sts.length cs)).setCell ⟨w.heap.size + 1, 3, none⟩ (.slice none 0 0)).drew.cell? ⟨w.heap.size + 1, 3, none⟩ = some (.slice none 0 0) := ⟨h4.c 0 0 rfl rfl, h4.c 0 1 rfl rfl, h4.c 0 2 rfl rfl, h4.c 0 3 rfl rfl⟩
    obtain ⟨m0, m1, m2, m3⟩ := s1
    clear h4
    go_upto_region 3 with (fail)
    go_region_held3 (fun X => X.cell? ⟨w.heap.size + 1, 0, none⟩ = some (.slice A1 lots.length c1) ∧ X.cell? ⟨w.heap.size + 1, 1, none⟩ = some (.slice Ag gns.length cg) ∧ X.cell? ⟨w.heap.size + 1, 2, none⟩ = some (.slice As sts.length cs) ∧ X.cell? ⟨w.heap.size + 1, 3, none⟩ = some (.slice none 0 0))
      (first
        | with_reducible exact ⟨m0, m1, m2, m3⟩
        | go_keep)
      (fail)
    all_goals
      go_wp2_with fail
      refine bodyPost_ret (v := .tuple #[.slice none 0 0, .slice none 0 0, .agg #[.slice A1 lots.length c1, .slice Ag gns.length cg, .slice As sts.length cs, .slice none 0 0], .bool false]) (by simp [results, Tryz.results9, go_sem, m0, m1, m2, m3]) rfl ?_
      rw [HPO.out, HNU.out]
      have hbk := HK2.out.at_ 0 rfl
      exact ⟨none, 0, none, 0, A1, c1, Ag, cg, As, cs, rfl, Own.nil, Own.nil, (HO2.out.sets4 hbk (by decide) _ _ _ _).drew, (HG2.out.sets4 hbk (by decide) _ _ _ _).drew, (HT2.out.sets4 hbk (by decide) _ _ _ _).drew, HK4.out.bl⟩
end Go.Proofs.YtbnfgbcgpbdpcaaGreatDoor
