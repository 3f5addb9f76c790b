/- Merged texts: Mo1, LC. -/
import Derived.Test.YtndndphfblijpaaGreatDoorPreqGS
import Derived.Test.YtndndphfblijpaaGreatDoorQGS23
import Derived.Test.YtndndphfblijpaaGreatDoorLtoqGS
import Derived.Deep.RegionHeld3
import Derived.Deep.DrawnRows
import Derived.Deep.DeepCutAuto
import Derived.Test.YtndndphfblijpaaGreatDoorQGS24
import Derived.Test.YtndndphfblijpaaGreatDoorQGS19
import Derived.Test.YtndndphfblijpaaGreatDoorQGS16
/- Contract of lotmap.Moved. -/
namespace Go.Proofs.YtndndphfblijpaaGreatDoor
open Go.RowKit Go.Shelf
attribute [local go_sem ↓] Go.wp_at_zero Go.wp_at_succ ld84_eq st84_eq

/-- What Moved gives. -/
def movL (ls : List Lot) (m : Mp) : List UInt8 × List UInt8 × List UInt8 × Int :=
  if allC ls = 0 ∧ mpC m = 0 then (txtL ((planL (lotsOf ls m.inst) m).m.sum - (planL (lotsOf ls m.inst) m).f.sum), txtL (planL (lotsOf ls m.inst) m).f.sum, txtL (totL ls m.inst (fun z => val z.c) - (planL (lotsOf ls m.inst) m).m.sum), 0) else ([], [], [], 1)
def MovPost (r : List UInt8 × List UInt8 × List UInt8 × Int) (w : World) (e : Ending) (w' : World) : Prop := e = .returned (.tuple #[S r.1, S r.2.1, S r.2.2.1, .int .i64 r.2.2.2]) ∧ Below w.heap.size w w'
theorem row_len {l : List Int} {K : Nat} (h : ∀ i, (l.getD i 0).natAbs < 10 ^ K) : ∀ t ∈ l.map txtL, t.length ≤ K + 1 := by
  intro t ht
  obtain ⟨z, hz, rfl⟩ := List.mem_map.1 ht
  obtain ⟨i, hi⟩ := List.getElem?_of_mem hz
  have := h i
  rw [getD_of hi] at this
  exact txtL_length this
theorem row_sum {l : List Int} {K : Nat} (h : ∀ i, (l.getD i 0).natAbs < 10 ^ K) (hl : l.length ≤ 1000) : l.sum.natAbs < 10 ^ (K + 4) := by
  have h1 := sum_lt (l := l) (g := fun z => z) (L := K) (fun a ha => by
    obtain ⟨i, hi⟩ := List.getElem?_of_mem ha
    have := h i
    rwa [getD_of hi] at this) hl
  rwa [List.map_id'] at h1
set_option maxRecDepth 100000 in
set_option maxHeartbeats 4000000 in
theorem moved_any (A : Option Addr) (n c : Nat) (ls : List Lot) (m : Mp) (w : World) (L : Nat) (hp : Env w) (hs : Lots w w.heap.size A n ls) (hn : n ≤ 9999) (hl : ∀ y ∈ ls, y.Sz 50000) (hm : m.Sz 5000 ∨ m.Bad)
    (hL : L ≤ 100) (hL1 : 1 ≤ L) (hq : ∀ y ∈ ls, y.q.length ≤ L) (hc : ∀ y ∈ ls, y.c.length ≤ L) (hr : m.ratio.Sz L) (hsh : m.share.Sz L) (hpr : m.price.Sz L) :
    Calls Tryz.prog 14 #[.slice A n c, MpV m] w (MovPost (movL ls m) w) := by
  have HPO := Lib.hid (show MovPost (movL ls m) w = fun e w' => e = .returned (.tuple #[S (movL ls m).1, S (movL ls m).2.1, S (movL ls m).2.2.1, .int .i64 (movL ls m).2.2.2]) ∧ Below w.heap.size w w' from rfl)
  generalize MovPost (movL ls m) w = post at *
  have HVA := Lib.hid (fun W (hb : Below w.heap.size w W) => valid_any A n c ls m W (hp.here hb) (hs.here hb) hl hm (by omega))
  have HK0 := Lib.hid ((Kp.start hp).new w.heap.size rfl (mpA m).toArray 28)
  rw [mpA_eq] at HK0
  unfold MpV
  rw [mpA_eq]
  unfold MpV at HVA
  rw [mpA_eq] at HVA
  obtain ⟨z0, z1, z2, z3, z4, z5, z6, z7, z8, z9, z10⟩ := mp11 HK0.out (m := m) (i := 0) rfl
  by_cases hv : allC ls = 0 ∧ mpC m = 0
  · have hlok := (allC_ok ls).1 hv.1; have hmok := (mpC_ok m).1 hv.2
    have HMV := Lib.hid (show movL ls m = (txtL ((planL (lotsOf ls m.inst) m).m.sum - (planL (lotsOf ls m.inst) m).f.sum), txtL (planL (lotsOf ls m.inst) m).f.sum, txtL (totL ls m.inst (fun z => val z.c) - (planL (lotsOf ls m.inst) m).m.sum), 0) from if_pos hv)
    rw [decide_eq_true hv.1, decide_eq_true hv.2] at HVA
    have HPR := Lib.hid (fun W (hb : Below w.heap.size w W) => prepare_any A n c ls m W L (hp.here hb) (hs.here hb) hlok hmok hL hL1 hq hc hr hsh hpr)
    have HTO := Lib.hid (fun W (hb : Below w.heap.size w W) => total_any A n c ls m.inst W (hp.here hb) (hs.here hb) hn (fun y hy => (hl y hy).q) (fun y hy => (hl y hy).c))
    unfold MpV at HPR
    rw [mpA_eq] at HPR
    have hlo : (lotsOf ls m.inst).length ≤ 1000 := Nat.le_trans (lotsOf_len ls m.inst) hlok.len
    have hplk := planL_k (lotsOf_ok hlok m.inst) hmok hlo hL1 (fun y hy => hq y (List.mem_filter.1 hy).1) (fun y hy => hc y (List.mem_filter.1 hy).1) hr hpr
    obtain ⟨l1, l2, l3, l4⟩ := planL_lens (lotsOf ls m.inst) m
    have hcl : (txtL (totL ls m.inst (fun z => val z.c))).length ≤ 50000 + 5 := sumF_len (g := (·.c)) (l := lotsOf ls m.inst) (L := 50000) (fun y hy => (hl y (List.mem_filter.1 hy).1).c) (by omega)
    have HPK := Lib.hid hplk; have HL2 := Lib.hid l2; have HL3 := Lib.hid l3; have HLO := Lib.hid hlo; have HLL := Lib.hid hL; have HCL := Lib.hid hcl
    have sm := txtL_length (row_sum hplk.m (by omega)); have sf := txtL_length (row_sum hplk.f (by omega))
    have HSM := Lib.hid sm; have HSF := Lib.hid sf
    generalize movL ls m = mv at *
    clear hp hs hn hl hm hq hc hr hsh hpr hL hL1 hv hlok hmok hplk l1 l2 l3 l4 hlo hcl sm sf
    unfold S at *
    go_enter Tryz.func14, Tryz.ntmps14
    go_wp2_with fail
    generalize w.alloc (.cells #[.string ⟨m.cause.toArray⟩, .int .i64 m.day, .string ⟨m.inst.toArray⟩, .string ⟨m.other.toArray⟩, .string ⟨m.ratio.n.toArray⟩, .string ⟨m.ratio.d.toArray⟩, .string ⟨m.share.n.toArray⟩, .string ⟨m.share.d.toArray⟩, .string ⟨m.price.n.toArray⟩, .string ⟨m.price.d.toArray⟩, .bool m.keep] 28) = W0 at *
    refine (HVA.out _ HK0.out.bl).mono ?_
    rintro e w1 ⟨rfl, hb1⟩
    have HK1 := Lib.hid (HK0.out.here hb1)
    clear hb1 HK0 HVA z0 z1 z2 z3 z4 z5 z6 z7 z8 z9 z10
    obtain ⟨z0, z1, z2, z3, z4, z5, z6, z7, z8, z9, z10⟩ := mp11 HK1.out (m := m) (i := 0) rfl
    go_wp2_with fail
    refine (HPR.out _ HK1.out.bl).mono ?_
    rintro e w2 ⟨v, pn, pm, pf, pp, rfl, hvm, hM, hb2⟩
    have HK2 := Lib.hid ((HK1.out.here hb2).new w2.heap.size rfl #[.string ⟨#[]⟩, .int .i64 0, .string ⟨#[]⟩, .string ⟨#[]⟩, .string ⟨#[]⟩, .string ⟨#[]⟩, .string ⟨#[]⟩, .string ⟨#[]⟩, .string ⟨#[]⟩, .string ⟨#[]⟩, .bool false, .slice none 0 0, .string ⟨#[]⟩, .string ⟨#[]⟩, .string ⟨#[]⟩, .slice none 0 0, .slice none 0 0, .slice none 0 0, .slice none 0 0] 84)
    have hbA : Below w2.heap.size w2 ((w2.alloc (.cells #[.string ⟨#[]⟩, .int .i64 0, .string ⟨#[]⟩, .string ⟨#[]⟩, .string ⟨#[]⟩, .string ⟨#[]⟩, .string ⟨#[]⟩, .string ⟨#[]⟩, .string ⟨#[]⟩, .string ⟨#[]⟩, .bool false, .slice none 0 0, .string ⟨#[]⟩, .string ⟨#[]⟩, .string ⟨#[]⟩, .slice none 0 0, .slice none 0 0, .slice none 0 0, .slice none 0 0] 84)).setRow w2.heap.size (plB v)) := by
      refine ⟨rfl, rfl, rfl, by simp [World.setRow], fun b hb => ?_⟩
      exact (setRow_other _ _ b _ (by omega)).trans (Below.heap_alloc w2 _ b hb)
    have HM3 := Lib.hid (hM.below hbA)
    have hst := run_st84 (HK2.out.at_ 0 rfl) rfl (plB_size' v) (plB_cells v (by rw [hM.en]; rfl) (by rw [hM.em]; rfl) (by rw [hM.ef]; rfl) (by rw [hM.ep]; rfl))
    have HK3 := Lib.hid (show Kp w [(w2.heap.size, plB v, 84), (w.heap.size, #[.string ⟨m.cause.toArray⟩, .int .i64 m.day, .string ⟨m.inst.toArray⟩, .string ⟨m.other.toArray⟩, .string ⟨m.ratio.n.toArray⟩, .string ⟨m.ratio.d.toArray⟩, .string ⟨m.share.n.toArray⟩, .string ⟨m.share.d.toArray⟩, .string ⟨m.price.n.toArray⟩, .string ⟨m.price.d.toArray⟩, .bool m.keep], 28)] ((w2.alloc (.cells #[.string ⟨#[]⟩, .int .i64 0, .string ⟨#[]⟩, .string ⟨#[]⟩, .string ⟨#[]⟩, .string ⟨#[]⟩, .string ⟨#[]⟩, .string ⟨#[]⟩, .string ⟨#[]⟩, .string ⟨#[]⟩, .bool false, .slice none 0 0, .string ⟨#[]⟩, .string ⟨#[]⟩, .string ⟨#[]⟩, .slice none 0 0, .slice none 0 0, .slice none 0 0, .slice none 0 0] 84)).setRow w2.heap.size (plB v)) from HK2.out.row 0 rfl (plB v))
    have HON := Lib.hid hM.len
    have HEM := Lib.hid hM.em; have HEF := Lib.hid hM.ef
    have E16 := Lib.hid (show (plB v)[16]? = some v.q from rfl)
    have E17 := Lib.hid (show (plB v)[17]? = some v.f from rfl)
    rw [hM.em] at E16
    rw [hM.ef] at E17
    clear z0 z1 z2 z3 z4 z5 z6 z7 z8 z9 z10 hM hb2 HK1 HPR hvm hbA HK2
    generalize hpb : plB v = pb at *
    obtain ⟨N, hN⟩ : ∃ N, N = v.on := ⟨_, rfl⟩
    rw [← hN] at E16 E17
    have HNV := Lib.hid hN
    clear hN hpb
    go_upto_region 4 with (fail)
    clear hst
    generalize (w2.alloc (.cells #[.string ⟨#[]⟩, .int .i64 0, .string ⟨#[]⟩, .string ⟨#[]⟩, .string ⟨#[]⟩, .string ⟨#[]⟩, .string ⟨#[]⟩, .string ⟨#[]⟩, .string ⟨#[]⟩, .string ⟨#[]⟩, .bool false, .slice none 0 0, .string ⟨#[]⟩, .string ⟨#[]⟩, .string ⟨#[]⟩, .slice none 0 0, .slice none 0 0, .slice none 0 0, .slice none 0 0] 84)).setRow w2.heap.size pb = W3 at *
    generalize planL (lotsOf ls m.inst) m = x at *
    generalize lotsOf ls m.inst = old at *
    have HSA := Lib.hid (show ∀ X, Below W3.heap.size W3 X → Calls Tryz.prog 38 #[.slice (some ⟨pm, 0, none⟩) N N] X fun e w' => e = .returned (.string ⟨(txtL x.m.sum).toArray⟩) ∧ Below X.heap.size X w' from fun X hX => by
      have hB : BlkB X pm (partA x.m N N) 24 := by
        have h := (HM3.out.bm).here hX
        rw [← HNV.out] at h
        exact h
      have h := mSum_any (some ⟨pm, 0, none⟩) N N (x.m.map txtL) X (HK3.out.here hX).pw (partA_strs hB (by rw [HL2.out, HNV.out]; exact HON.out.symm)) (fun t ht => Nat.le_trans (row_len HPK.out.m t ht) (by have := HLL.out; omega)) (by rw [HNV.out, HON.out]; have := HLO.out; omega)
      rw [sumV_map] at h
      exact h)
    have HSB := Lib.hid (show ∀ X, Below W3.heap.size W3 X → Calls Tryz.prog 38 #[.slice (some ⟨pf, 0, none⟩) N N] X fun e w' => e = .returned (.string ⟨(txtL x.f.sum).toArray⟩) ∧ Below X.heap.size X w' from fun X hX => by
      have hB : BlkB X pf (partA x.f N N) 24 := by
        have h := (HM3.out.bf).here hX
        rw [← HNV.out] at h
        exact h
      have h := mSum_any (some ⟨pf, 0, none⟩) N N (x.f.map txtL) X (HK3.out.here hX).pw (partA_strs hB (by rw [HL3.out, HNV.out]; exact HON.out.symm)) (fun t ht => Nat.le_trans (row_len HPK.out.f t ht) (by have := HLL.out; omega)) (by rw [HNV.out, HON.out]; have := HLO.out; omega)
      rw [sumV_map] at h
      exact h)
    have HS1 := Lib.hid (fun X hX => Sub_any (txtL x.m.sum) (txtL x.f.sum) X hX (by have := HSM.out; have := HLL.out; omega) (by have := HSF.out; have := HLL.out; omega))
    have HS2 := Lib.hid (fun X hX => Sub_any (txtL (totL ls m.inst (fun z => val z.c))) (txtL x.m.sum) X hX (by have := HCL.out; omega) (by have := HSM.out; have := HLL.out; omega))
    rw [val_txtL, val_txtL] at HS1 HS2
    clear HPK HL2 HL3 HLO HLL HCL HSM HSF HM3 HON
    have HS4 := Lib.hid (show ∀ X, Below W3.heap.size W3 X → X.cell? ⟨w2.heap.size, 16, none⟩ = some (.slice (some ⟨pm, 0, none⟩) N N) ∧ X.cell? ⟨w2.heap.size, 17, none⟩ = some (.slice (some ⟨pf, 0, none⟩) N N) from fun X hX => ⟨(HK3.out.here hX).c 0 16 rfl E16.out, (HK3.out.here hX).c 0 17 rfl E17.out⟩)
    generalize txtL x.m.sum = tm at *
    generalize txtL x.f.sum = tf at *
    generalize txtL (x.m.sum - x.f.sum) = tmf at *
    go_cut [9, 10] (fun a b wc => a = .string ⟨tm.toArray⟩ ∧ b = .string ⟨tf.toArray⟩ ∧ Hid (Below W3.heap.size W3 wc))
    case first =>
      have b0 : Below W3.heap.size W3 W3.drew := (Below.refl _ _).drew
      have s0 := HS4.out _ b0
      obtain ⟨s00, s01⟩ := HS4.out _ (Below.refl _ W3)
      go_region_held3 (fun X => X.cell? ⟨w2.heap.size, 16, none⟩ = some (.slice (some ⟨pm, 0, none⟩) N N) ∧ X.cell? ⟨w2.heap.size, 17, none⟩ = some (.slice (some ⟨pf, 0, none⟩) N N))
        (first
          | with_reducible exact s2
          | with_reducible exact s1
          | with_reducible exact s0
          | go_keep)
        (first
          | (go_at_call_of 38 (Value.slice (some ⟨pm, 0, none⟩) N N); first
              | (refine (HSA.out _ b1).mono ?_; rintro e y2 ⟨rfl, hy⟩
                 have b2 := b1.trans (hy.mono b1.size)
                 have s2 := HS4.out _ b2)
              | (refine (HSA.out _ b0).mono ?_; rintro e y1 ⟨rfl, hy⟩
                 have b1 := b0.trans (hy.mono b0.size)
                 have s1 := HS4.out _ b1))
          | (go_at_call_of 38 (Value.slice (some ⟨pf, 0, none⟩) N N); first
              | (refine (HSB.out _ b1).mono ?_; rintro e y2 ⟨rfl, hy⟩
                 have b2 := b1.trans (hy.mono b1.size)
                 have s2 := HS4.out _ b2)
              | (refine (HSB.out _ b0).mono ?_; rintro e y1 ⟨rfl, hy⟩
                 have b1 := b0.trans (hy.mono b0.size)
                 have s1 := HS4.out _ b1)))
      all_goals
        go_wp2_with fail
        go_meet
        exact ⟨rfl, rfl, b2⟩
    case rest =>
    obtain ⟨rfl, rfl, HBC⟩ := hcut
    have HK4 := Lib.hid (HK3.out.here HBC.out)
    have zi := HK4.out.c 1 2 rfl rfl
    unfold TotPost at HTO
    unfold S at HTO
    go_wp2_with fail
    refine (HTO.out _ HK4.out.bl).mono ?_
    rintro e w5 ⟨rfl, hb5⟩
    have HK5 := Lib.hid (HK4.out.here hb5)
    clear zi hb5
    go_wp2_with fail
    refine (HS1.out _ HK5.out.po).mono ?_
    rintro e w6 ⟨rfl, hb6⟩
    have HK6 := Lib.hid (HK5.out.here hb6)
    unfold S
    go_wp2_with fail
    refine (HS2.out _ HK6.out.po).mono ?_
    rintro e w7 ⟨rfl, hb7⟩
    unfold S
    go_wp2_with fail
    refine bodyPost_ret (v := .tuple #[.string ⟨tmf.toArray⟩, .string ⟨tf.toArray⟩, .string ⟨(txtL (totL ls m.inst (fun z => val z.c) - x.m.sum)).toArray⟩, .int .i64 0]) (by simp [results, Tryz.results14, go_sem]) rfl ?_
    rw [HPO.out, HMV.out]
    exact ⟨rfl, (HK6.out.here hb7).bl⟩
  · have HMV := Lib.hid (show movL ls m = ([], [], [], 1) from if_neg hv)
    have hvb : (decide (allC ls = 0) && decide (mpC m = 0)) = false := by
      by_cases h1 : allC ls = 0
      · rw [decide_eq_true h1, decide_eq_false (fun h2 => hv ⟨h1, h2⟩)]; rfl
      · rw [decide_eq_false h1]; rfl
    rw [hvb] at HVA
    generalize movL ls m = mv at *
    clear hp hs hn hl hm hq hc hr hsh hpr hL hL1 hv hvb
    unfold S at *
    go_enter Tryz.func14, Tryz.ntmps14
    go_wp2_with fail
    generalize w.alloc (.cells #[.string ⟨m.cause.toArray⟩, .int .i64 m.day, .string ⟨m.inst.toArray⟩, .string ⟨m.other.toArray⟩, .string ⟨m.ratio.n.toArray⟩, .string ⟨m.ratio.d.toArray⟩, .string ⟨m.share.n.toArray⟩, .string ⟨m.share.d.toArray⟩, .string ⟨m.price.n.toArray⟩, .string ⟨m.price.d.toArray⟩, .bool m.keep] 28) = W0 at *
    refine (HVA.out _ HK0.out.bl).mono ?_
    rintro e w1 ⟨rfl, hb1⟩
    go_wp2_with fail
    refine bodyPost_ret (v := .tuple #[.string ⟨#[]⟩, .string ⟨#[]⟩, .string ⟨#[]⟩, .int .i64 1]) (by simp [results, Tryz.results14, go_sem]) rfl ?_
    rw [HPO.out, HMV.out]
    exact ⟨rfl, (HK0.out.here hb1).bl⟩
end Go.Proofs.YtndndphfblijpaaGreatDoor
/- The walk of the law LotmapCosts. -/
namespace Go.Proofs.YtndndphfblijpaaGreatDoor
open Go.RowKit Go.Shelf
attribute [local go_sem ↓] Go.wp_at_zero Go.wp_at_succ

theorem takenK {xs : List Gain} {k : Nat} {x : Gain} (h : xs[k]? = some x) : sumG (xs.take (k + 1)) = sumG (xs.take k) + val x.cost := by
  obtain ⟨hk, rfl⟩ := List.getElem?_eq_some_iff.1 h
  unfold sumG
  rw [List.take_succ_eq_append_getElem hk, List.map_append, sum_append_]
  simp
theorem sumG_len {xs : List Gain} {K : Nat} (h : ∀ g ∈ xs, g.cost.length ≤ K) (hn : xs.length ≤ 1000) (k : Nat) : (txtL (sumG (xs.take k))).length ≤ K + 5 := by
  have h1 := sum_lt (l := xs.take k) (g := fun g => val g.cost) (L := K) (fun a ha => val_lt' (h a (List.mem_of_mem_take ha))) (by rw [List.length_take]; omega)
  exact txtL_length (L := K + 4) h1
theorem txt_add_len {a b : Int} {K : Nat} (ha : (txtL a).length ≤ K) (hb : (txtL b).length ≤ K) : (txtL (a + b)).length ≤ K + 2 ∧ (txtL (a - b)).length ≤ K + 2 := by
  have h1 := val_lt' ha; have h2 := val_lt' hb
  rw [val_txtL] at h1 h2
  exact ⟨txtL_length (add_lt_pow h1 h2), txtL_length (sub_lt_pow h1 h2)⟩
set_option maxRecDepth 100000 in
set_option maxHeartbeats 8000000 in
theorem costs_walk (A : Option Addr) (n c : Nat) (ls : List Lot) (m : Mp) (w : World) (hp : Env w) (hs : Lots w w.heap.size A n ls) (hnil : (A = none ∧ c = 0) ∨ ∃ a, A = some a) (hn : n ≤ 9223372036854775807) (hi : ∀ y ∈ ls, y.I)
    (hm : m.Max) (hd : -9223372036854775808 ≤ m.day ∧ m.day ≤ 9223372036854775807) :
    Calls Tryz.prog 3 #[.slice A n c, MpV m] w fun e w' => e = .returned (.bool true) ∧ Below w.heap.size w w' := by
  have HGR := Lib.hid (fun W (hb : Below w.heap.size w W) => lwGreat_any A n c ls m W (hs.here hb) hn hm)
  have HAW := Lib.hid (fun W (hb : Below w.heap.size w W) => lwAwake_any W (hp.here hb))
  have HK0 := Lib.hid (show Kp w [(w.heap.size, #[.string ⟨m.cause.toArray⟩, .int .i64 m.day, .string ⟨m.inst.toArray⟩, .string ⟨m.other.toArray⟩, .string ⟨m.ratio.n.toArray⟩, .string ⟨m.ratio.d.toArray⟩, .string ⟨m.share.n.toArray⟩, .string ⟨m.share.d.toArray⟩, .string ⟨m.price.n.toArray⟩, .string ⟨m.price.d.toArray⟩, .bool m.keep], 28)] (w.alloc (.cells #[.string ⟨m.cause.toArray⟩, .int .i64 m.day, .string ⟨m.inst.toArray⟩, .string ⟨m.other.toArray⟩, .string ⟨m.ratio.n.toArray⟩, .string ⟨m.ratio.d.toArray⟩, .string ⟨m.share.n.toArray⟩, .string ⟨m.share.d.toArray⟩, .string ⟨m.price.n.toArray⟩, .string ⟨m.price.d.toArray⟩, .bool m.keep] 28)) from (Kp.start hp).new w.heap.size rfl _ _)
  obtain ⟨z0, z1, z2, z3, z4, z5, z6, z7, z8, z9, z10⟩ := mp11 HK0.out (m := m) (i := 0) rfl
  cases hg : (grtL ls || longM m) with
  | true =>
    rw [hg] at HGR
    clear hp hs hnil hn hi hm hd hg
    unfold MpV at *
    rw [mpA_eq] at *
    go_enter Tryz.func3, Tryz.ntmps3
    go_wp2_with fail
    generalize w.alloc (.cells #[.string ⟨m.cause.toArray⟩, .int .i64 m.day, .string ⟨m.inst.toArray⟩, .string ⟨m.other.toArray⟩, .string ⟨m.ratio.n.toArray⟩, .string ⟨m.ratio.d.toArray⟩, .string ⟨m.share.n.toArray⟩, .string ⟨m.share.d.toArray⟩, .string ⟨m.price.n.toArray⟩, .string ⟨m.price.d.toArray⟩, .bool m.keep] 28) = W0 at *
    refine (HGR.out _ HK0.out.bl).mono ?_
    rintro e w1 ⟨rfl, hb1⟩
    have HK1 := Lib.hid (HK0.out.here hb1)
    clear z0 z1 z2 z3 z4 z5 z6 z7 z8 z9 z10 hb1
    go_wp2_with fail
    refine (HAW.out _ HK1.out.bl).mono ?_
    rintro e w2 ⟨rfl, hb2⟩
    go_wp2_with fail
    first | go_ret | skip
    exact ⟨rfl, (HK1.out.here hb2).bl⟩
  | false =>
    rw [hg] at HGR
    simp only [Bool.or_eq_false_iff] at hg
    obtain ⟨hn2, hsz⟩ := grtL_no hg.1 hi
    obtain ⟨hr, hsh, hpr, hmz⟩ := longM_no hg.2 hd.1 hd.2
    have hn1 : n ≤ 1002 := by rw [hs.1]; exact hn2
    have hmz5 : m.Sz 5000 ∨ m.Bad := hmz.imp (fun h => h.more (by omega)) id
    have hls5 : ∀ y ∈ ls, y.Sz 50000 := fun y hy => (hsz y hy).1.more (by omega)
    have hq13 : ∀ y ∈ ls, y.q.length ≤ 13 := fun y hy => (hsz y hy).2.1
    have hc13 : ∀ y ∈ ls, y.c.length ≤ 13 := fun y hy => (hsz y hy).2.2
    have HNU := Lib.hid (fun W (hb : Below w.heap.size w W) => numbers_any A n c ls m W 13 (hp.here hb) (hs.here hb) hnil (by omega) hls5 hmz5 (by decide) (by decide) hq13 hc13 (hr.more (by omega)) (hsh.more (by omega)) (hpr.more (by omega)))
    have HMV := Lib.hid (fun W (hb : Below w.heap.size w W) => moved_any A n c ls m W 13 (hp.here hb) (hs.here hb) (by omega) hls5 hmz5 (by decide) (by decide) hq13 hc13 (hr.more (by omega)) (hsh.more (by omega)) (hpr.more (by omega)))
    have HLEN := Lib.hid (mapL_len (m := m) (L := 13) (by decide) (by decide) (fun y hy => ⟨hq13 y hy, hc13 y hy⟩) hls5 (hr.more (by omega)) (hpr.more (by omega)))
    have HSL := Lib.hid (fun W (hb : Below w.heap.size w W) => lwSumC_any A n c ls W (hp.here hb) (hs.here hb) (fun y hy => by have := hc13 y hy; omega) (by omega))
    have HPL := Lib.hid (costs_plain (ls := ls) (m := m)); have HNO := Lib.hid (mapL_no (ls := ls) (m := m))
    have HNL := Lib.hid (show numL ls m = if (mapL ls m).2 = 0 then (lotsOf ls m.inst, newOf ls (mapL ls m).1.lots, (mapL ls m).1, true) else ([], [], (mapL ls m).1, false) from rfl)
    have HP := Lib.hid hp; have HS := Lib.hid hs; have HN1 := Lib.hid hn1
    have HQC := Lib.hid (And.intro hq13 hc13)
    clear hp hs hnil hn hi hm hd hg hn2 hsz hr hsh hpr hn1 hmz hmz5 hls5 hq13 hc13
    unfold MpV at *
    rw [mpA_eq] at *
    go_enter Tryz.func3, Tryz.ntmps3
    go_wp2_with fail
    generalize w.alloc (.cells #[.string ⟨m.cause.toArray⟩, .int .i64 m.day, .string ⟨m.inst.toArray⟩, .string ⟨m.other.toArray⟩, .string ⟨m.ratio.n.toArray⟩, .string ⟨m.ratio.d.toArray⟩, .string ⟨m.share.n.toArray⟩, .string ⟨m.share.d.toArray⟩, .string ⟨m.price.n.toArray⟩, .string ⟨m.price.d.toArray⟩, .bool m.keep] 28) = W0 at *
    refine (HGR.out _ HK0.out.bl).mono ?_
    rintro e w1 ⟨rfl, hb1⟩
    have HK1 := Lib.hid (HK0.out.here hb1)
    clear z0 z1 z2 z3 z4 z5 z6 z7 z8 z9 z10 hb1 HGR HK0
    obtain ⟨z0, z1, z2, z3, z4, z5, z6, z7, z8, z9, z10⟩ := mp11 HK1.out (m := m) (i := 0) rfl
    go_wp2_with fail
    refine (HNU.out _ HK1.out.bl).mono ?_
    rintro e w2 ⟨Ao, co, Am, cm, A1, c1, Ag, cg, As, cs, rfl, oO, oM, oL, oG, oS, hb2⟩
    clear z0 z1 z2 z3 z4 z5 z6 z7 z8 z9 z10 HNU
    by_cases h0 : (mapL ls m).2 = 0
    · rw [HNL.out, if_pos h0] at oO oM oL oG oS ⊢
      obtain ⟨p1, p2, p3, p4, p5, p6⟩ := HPL.out h0
      have hmv : movL ls m = (txtL (sumC (newOf ls (mapL ls m).1.lots)), txtL (sumG (mapL ls m).1.gains), txtL (totL ls m.inst (fun z => val z.c) - (planL (lotsOf ls m.inst) m).m.sum), 0) := by
        unfold movL
        rw [if_pos ⟨p1, p2⟩, p5, p6]
      have hmn : (planL (lotsOf ls m.inst) m).m.sum = sumC (newOf ls (mapL ls m).1.lots) + sumG (mapL ls m).1.gains := by rw [← p5, ← p6]; omega
      rw [hmv, hmn] at HMV
      obtain ⟨q1, q2, _, q4, q5, q6⟩ := HLEN.out
      dsimp only at oO oM oL oG oS ⊢
      have HOldQ := Lib.hid (show ∀ y ∈ lotsOf ls m.inst, y.c.length ≤ 50000 from fun y hy => by have := HQC.out.2 y (List.mem_filter.1 hy).1; omega)
      have hol : (lotsOf ls m.inst).length ≤ 1002 := Nat.le_trans (lotsOf_len ls m.inst) (by rw [← HS.out.1]; exact HN1.out)
      have hnw : ∀ y ∈ newOf ls (mapL ls m).1.lots, y.c.length ≤ 50000 := fun y hy => by have := (q1 y (List.mem_filter.1 hy).1).2.1; omega
      have hnl : (newOf ls (mapL ls m).1.lots).length ≤ 1000 := Nat.le_trans (List.length_filter_le _ _) q4
      have hto : totL ls m.inst (fun z => val z.c) = sumC (lotsOf ls m.inst) := rfl
      rw [hto] at HMV
      have lso := selS_len (sel := (·.c)) (xs := lotsOf ls m.inst) (L := 50000) HOldQ.out (by omega) (lotsOf ls m.inst).length
      rw [List.take_of_length_le (Nat.le_refl _)] at lso
      have lsn := selS_len (sel := (·.c)) (xs := newOf ls (mapL ls m).1.lots) (L := 50000) hnw (by omega) (newOf ls (mapL ls m).1.lots).length
      rw [List.take_of_length_le (Nat.le_refl _)] at lsn
      have lsl := selS_len (sel := (·.c)) (xs := (mapL ls m).1.lots) (L := 50000) (fun y hy => by have := (q1 y hy).2.1; omega) (by omega) (mapL ls m).1.lots.length
      rw [List.take_of_length_le (Nat.le_refl _)] at lsl
      have lsg := sumG_len (K := 100) (fun g hg => by have := (q2 g hg).1; omega) q5 (mapL ls m).1.gains.length
      rw [List.take_of_length_le (Nat.le_refl _)] at lsg
      have HQ1 := Lib.hid (show ∀ y ∈ (mapL ls m).1.lots, y.c.length ≤ 50000 ∧ y.Sz 50000 from fun y hy => ⟨by have := (q1 y hy).2.1; omega, (q1 y hy).2.2⟩)
      have HQ2 := Lib.hid (show ∀ y ∈ (mapL ls m).1.gains, y.cost.length ≤ 100 from fun g hg => by have := (q2 g hg).1; omega)
      have HNW := Lib.hid hnw; have HNLN := Lib.hid hnl; have HOLN := Lib.hid hol; have HQ5 := Lib.hid q5; have HQ4 := Lib.hid q4
      have HP3 := Lib.hid p3; have HP4 := Lib.hid p4
      have HLS := Lib.hid (show (txtL (sumC (lotsOf ls m.inst))).length ≤ 50005 ∧ (txtL (sumC (newOf ls (mapL ls m).1.lots))).length ≤ 50005 ∧ (txtL (sumC (mapL ls m).1.lots)).length ≤ 50005 ∧ (txtL (sumG (mapL ls m).1.gains)).length ≤ 105 from ⟨lso, lsn, lsl, lsg⟩)
      clear HPL HNO HNL HLEN h0 p1 p2 p3 p4 p5 p6 hmv hmn q1 q2 q4 q5 q6 hol hnw hnl hto lso lsn lsl lsg
      generalize newOf ls (mapL ls m).1.lots = nw at *
      generalize lotsOf ls m.inst = old at *
      generalize (mapL ls m).1.lots = lots at *
      generalize (mapL ls m).1.gains = gains at *
      generalize (mapL ls m).1.steps = steps at *
      have HK2 := Lib.hid (HK1.out.here hb2)
      have HK3 := Lib.hid (HK2.out.new w2.heap.size rfl #[.slice A1 lots.length c1, .slice Ag gains.length cg, .slice As steps.length cs, .slice none 0 0] 35)
      have hB1 := HK1.out.bl.size
      have HOO := Lib.hid ((oO.base_ hB1).alloc (.cells #[.slice A1 lots.length c1, .slice Ag gains.length cg, .slice As steps.length cs, .slice none 0 0] 35)); have HOM := Lib.hid ((oM.base_ hB1).alloc (.cells #[.slice A1 lots.length c1, .slice Ag gains.length cg, .slice As steps.length cs, .slice none 0 0] 35)); have HOL := Lib.hid ((oL.base_ hB1).alloc (.cells #[.slice A1 lots.length c1, .slice Ag gains.length cg, .slice As steps.length cs, .slice none 0 0] 35)); have HOG := Lib.hid ((oG.base_ hB1).alloc (.cells #[.slice A1 lots.length c1, .slice Ag gains.length cg, .slice As steps.length cs, .slice none 0 0] 35))
      clear oO oM oL oG oS hb2 hB1
      have HOF := Lib.hid (fun W hp => of_any 0 (by omega) (by omega) W hp)
      rw [show ofL 0 = [] from ofL_nat 0] at HOF
      unfold S at HOF
      go_wp2_with fail
      generalize w2.alloc (.cells #[.slice A1 lots.length c1, .slice Ag gains.length cg, .slice As steps.length cs, .slice none 0 0] 35) = W3 at *
      refine (HOF.out _ HK3.out.po).mono ?_
      rintro e w4 ⟨rfl, hb4⟩
      have HK4 := Lib.hid (HK3.out.here hb4)
      have HB4 := Lib.hid hb4
      clear hb4
      have e1 := HK4.out.c 0 1 rfl rfl
      have hgl := HQ5.out
      go_wp2_with fail
      go_loopw [9, 11, 41] (fun s _ j wr => ∃ k : Nat, k ≤ gains.length ∧ j = .int .i64 k ∧ s = .string ⟨(txtL (sumG (gains.take k))).toArray⟩ ∧ Hid (Below W3.heap.size W3 wr)) (fun _ _ j _ => gains.length - (intOf j).toNat)
      case atStart => exact ⟨0, Nat.zero_le _, rfl, rfl, HB4.out⟩
      case round =>
        clear e1
        obtain ⟨k, hk, rfl, rfl, HBR⟩ := hrel
        by_cases hlt : k < gains.length
        · obtain ⟨b, off, y, rfl, hb, hy, d0, d1, d2, d3, d4, d5, d6, d7, d8, d9⟩ := ((HOG.out.below HBR.out).sl G10_len).gain hlt
          have HTK := Lib.hid (takenK hy)
          have HA := Lib.hid (fun W hp => Add_any (txtL (sumG (gains.take k))) y.cost W hp (by have := sumG_len HQ2.out HQ5.out k; omega) (by have := HQ2.out y (List.mem_of_getElem? hy); omega))
          rw [val_txtL, ← HTK.out] at HA
          clear hy
          have HA1 := Lib.hid (HBR.out.alloc HBR.out.size (.cells #[.string ⟨y.cause.toArray⟩, .string ⟨y.lot.toArray⟩, .string ⟨y.inst.toArray⟩, .int .i64 y.acq, .int .i64 y.closed, .string ⟨y.q.toArray⟩, .string ⟨y.proceeds.toArray⟩, .string ⟨y.cost.toArray⟩, .string ⟨y.deferred.toArray⟩, .string ⟨y.replaced.toArray⟩] 40))
          have HE := Lib.hid ((HK3.out.here HA1.out).po)
          unfold S at HA
          go_wp2_with fail
          refine (HA.out _ HE.out).mono ?_
          rintro e w5 ⟨rfl, hb5⟩
          try unfold S
          go_wp2_with fail
          go_roundw
          case rel => exact ⟨k + 1, by omega, by go_num, rfl, HA1.out.trans (hb5.mono HA1.out.size)⟩
          case measure => simp [intOf]; omega
        · obtain rfl : k = gains.length := by omega
          rw [List.take_of_length_le (Nat.le_refl _)]
          have HKR := Lib.hid (HK3.out.here HBR.out)
          have HOO2 := Lib.hid (HOO.out.below HBR.out); have HOM2 := Lib.hid (HOM.out.below HBR.out); have HOL2 := Lib.hid (HOL.out.below HBR.out)
          clear HOO HOM HOL HOG HB4 HK4 HBR
          have HX1 := Lib.hid (show ∀ X, Below wr.heap.size wr X → Calls Tryz.prog 11 #[.slice A n c, .func (.func 12) #[] #[]] X fun e w' => e = .returned (.string ⟨(txtL (sumC lots + sumG gains)).toArray⟩) ∧ Below X.heap.size X w' from fun X hX => by
            have h := HSL.out X (HKR.out.here hX).bl
            rw [show selS (·.c) ls = sumC lots + sumG gains from HP4.out] at h
            exact h)
          have HX2 := Lib.hid (show ∀ X, Below wr.heap.size wr X → Calls Tryz.prog 11 #[.slice A1 lots.length c1, .func (.func 12) #[] #[]] X fun e w' => e = .returned (.string ⟨(txtL (sumC lots)).toArray⟩) ∧ Below X.heap.size X w' from fun X hX =>
            lwSumC_any A1 lots.length c1 lots X (HKR.out.here hX).pw ((HOL2.out.below hX).sl L7_len) (fun y hy => (HQ1.out y hy).1) (by have := HQ4.out; omega))
          have HX3 := Lib.hid (show ∀ X, Below wr.heap.size wr X → Calls Tryz.prog 10 #[.string ⟨(txtL (sumC lots)).toArray⟩, .string ⟨(txtL (sumG gains)).toArray⟩] X fun e w' => e = .returned (.string ⟨(txtL (sumC lots + sumG gains)).toArray⟩) ∧ Below X.heap.size X w' from fun X hX => by
            have h := Add_any (txtL (sumC lots)) (txtL (sumG gains)) X (HKR.out.here hX).po (by have := HLS.out.2.2.1; omega) (by have := HLS.out.2.2.2; omega)
            rw [val_txtL, val_txtL] at h
            exact h)
          have HX4 := Lib.hid (show ∀ X, Below wr.heap.size wr X → Calls Tryz.prog 13 #[.slice A1 lots.length c1] X fun e w' => e = .returned (.int .i64 0) ∧ Below X.heap.size X w' from fun X hX => by
            have h := checkAll_any A1 lots.length c1 lots X (HKR.out.here hX).pw ((HOL2.out.below hX).sl L7_len) (fun y hy => (HQ1.out y hy).2) (by have := HQ4.out; omega)
            rw [HP3.out] at h
            exact h)
          have HX5 := Lib.hid (show ∀ X, Below wr.heap.size wr X → Calls Tryz.prog 11 #[.slice Am nw.length cm, .func (.func 12) #[] #[]] X fun e w' => e = .returned (.string ⟨(txtL (sumC nw)).toArray⟩) ∧ Below X.heap.size X w' from fun X hX =>
            lwSumC_any Am nw.length cm nw X (HKR.out.here hX).pw ((HOM2.out.below hX).sl L7_len) HNW.out (by have := HNLN.out; omega))
          have HX6 := Lib.hid (show ∀ X, Below wr.heap.size wr X → Calls Tryz.prog 11 #[.slice Ao old.length co, .func (.func 12) #[] #[]] X fun e w' => e = .returned (.string ⟨(txtL (sumC old)).toArray⟩) ∧ Below X.heap.size X w' from fun X hX =>
            lwSumC_any Ao old.length co old X (HKR.out.here hX).pw ((HOO2.out.below hX).sl L7_len) HOldQ.out (by have := HOLN.out; omega))
          have lng := (txt_add_len (K := 50005) HLS.out.2.1 (Nat.le_trans HLS.out.2.2.2 (by omega))).1
          have lnr := (txt_add_len (K := 50007) (Nat.le_trans HLS.out.1 (by omega)) lng).2
          have HX7 := Lib.hid (show ∀ X, Below wr.heap.size wr X → Calls Tryz.prog 10 #[.string ⟨(txtL (sumC nw)).toArray⟩, .string ⟨(txtL (sumG gains)).toArray⟩] X fun e w' => e = .returned (.string ⟨(txtL (sumC nw + sumG gains)).toArray⟩) ∧ Below X.heap.size X w' from fun X hX => by
            have h := Add_any (txtL (sumC nw)) (txtL (sumG gains)) X (HKR.out.here hX).po (by have := HLS.out.2.1; omega) (by have := HLS.out.2.2.2; omega)
            rw [val_txtL, val_txtL] at h
            exact h)
          have HX8 := Lib.hid (show ∀ X, Below wr.heap.size wr X → Calls Tryz.prog 10 #[.string ⟨(txtL (sumC nw + sumG gains)).toArray⟩, .string ⟨(txtL (sumC old - (sumC nw + sumG gains))).toArray⟩] X fun e w' => e = .returned (.string ⟨(txtL (sumC old)).toArray⟩) ∧ Below X.heap.size X w' from fun X hX => by
            have h := Add_any (txtL (sumC nw + sumG gains)) (txtL (sumC old - (sumC nw + sumG gains))) X (HKR.out.here hX).po (by omega) (by omega)
            rw [val_txtL, val_txtL, show sumC nw + sumG gains + (sumC old - (sumC nw + sumG gains)) = sumC old by omega] at h
            exact h)
          clear lng lnr HSL HOL2 HOM2 HOO2 HQ1 HQ2 HQ4 HQ5 HNW HNLN HOLN HOldQ HP3 HP4 HLS
          unfold MovPost at HMV
          dsimp only at HMV
          unfold S at HMV
          generalize txtL (sumC lots + sumG gains) = tA at *
          generalize txtL (sumC old - (sumC nw + sumG gains)) = tr at *
          generalize txtL (sumC nw + sumG gains) = tng at *
          generalize txtL (sumC lots) = tl at *
          generalize txtL (sumC nw) = tn at *
          generalize txtL (sumC old) = tso at *
          generalize txtL (sumG gains) = tg at *
          have HS0 := Lib.hid (show ∀ X, Below wr.heap.size wr X → X.cell? ⟨w2.heap.size, 0, none⟩ = some (.slice A1 lots.length c1) from fun X hX => (HKR.out.here hX).c 0 0 rfl rfl)
          have hAA : (tA != tA) = false := by simp
          go_upto_region 12 with (fail)
          go_cut [63] (fun b wc => b = .bool false ∧ Hid (Below wr.heap.size wr wc))
          case first =>
            have b0 : Below wr.heap.size wr wr.drew := (Below.refl _ _).drew
            have s00 := HS0.out _ (Below.refl _ wr)
            have s0 := HS0.out _ b0
            go_region_held3 (fun X => X.cell? ⟨w2.heap.size, 0, none⟩ = some (.slice A1 lots.length c1))
              (first
                | with_reducible exact s4
                | with_reducible exact s3
                | with_reducible exact s2
                | with_reducible exact s1
                | with_reducible exact s0
                | go_keep)
              (first
                | (go_at_call_of 11 (Value.slice A n c); first
                    | (refine (HX1.out _ b3).mono ?_; rintro e y4 ⟨rfl, hy⟩
                       have b4 := b3.trans (hy.mono b3.size)
                       have s4 := HS0.out _ b4)
                    | (refine (HX1.out _ b2).mono ?_; rintro e y3 ⟨rfl, hy⟩
                       have b3 := b2.trans (hy.mono b2.size)
                       have s3 := HS0.out _ b3)
                    | (refine (HX1.out _ b1).mono ?_; rintro e y2 ⟨rfl, hy⟩
                       have b2 := b1.trans (hy.mono b1.size)
                       have s2 := HS0.out _ b2)
                    | (refine (HX1.out _ b0).mono ?_; rintro e y1 ⟨rfl, hy⟩
                       have b1 := b0.trans (hy.mono b0.size)
                       have s1 := HS0.out _ b1))
                | (go_at_call_of 11 (Value.slice A1 lots.length c1); first
                    | (refine (HX2.out _ b3).mono ?_; rintro e y4 ⟨rfl, hy⟩
                       have b4 := b3.trans (hy.mono b3.size)
                       have s4 := HS0.out _ b4)
                    | (refine (HX2.out _ b2).mono ?_; rintro e y3 ⟨rfl, hy⟩
                       have b3 := b2.trans (hy.mono b2.size)
                       have s3 := HS0.out _ b3)
                    | (refine (HX2.out _ b1).mono ?_; rintro e y2 ⟨rfl, hy⟩
                       have b2 := b1.trans (hy.mono b1.size)
                       have s2 := HS0.out _ b2)
                    | (refine (HX2.out _ b0).mono ?_; rintro e y1 ⟨rfl, hy⟩
                       have b1 := b0.trans (hy.mono b0.size)
                       have s1 := HS0.out _ b1))
                | (go_at_call 10; first
                    | (refine (HX3.out _ b3).mono ?_; rintro e y4 ⟨rfl, hy⟩
                       have b4 := b3.trans (hy.mono b3.size)
                       have s4 := HS0.out _ b4)
                    | (refine (HX3.out _ b2).mono ?_; rintro e y3 ⟨rfl, hy⟩
                       have b3 := b2.trans (hy.mono b2.size)
                       have s3 := HS0.out _ b3)
                    | (refine (HX3.out _ b1).mono ?_; rintro e y2 ⟨rfl, hy⟩
                       have b2 := b1.trans (hy.mono b1.size)
                       have s2 := HS0.out _ b2)
                    | (refine (HX3.out _ b0).mono ?_; rintro e y1 ⟨rfl, hy⟩
                       have b1 := b0.trans (hy.mono b0.size)
                       have s1 := HS0.out _ b1))
                | (go_at_call 13; first
                    | (refine (HX4.out _ b3).mono ?_; rintro e y4 ⟨rfl, hy⟩
                       have b4 := b3.trans (hy.mono b3.size)
                       have s4 := HS0.out _ b4)
                    | (refine (HX4.out _ b2).mono ?_; rintro e y3 ⟨rfl, hy⟩
                       have b3 := b2.trans (hy.mono b2.size)
                       have s3 := HS0.out _ b3)
                    | (refine (HX4.out _ b1).mono ?_; rintro e y2 ⟨rfl, hy⟩
                       have b2 := b1.trans (hy.mono b1.size)
                       have s2 := HS0.out _ b2)
                    | (refine (HX4.out _ b0).mono ?_; rintro e y1 ⟨rfl, hy⟩
                       have b1 := b0.trans (hy.mono b0.size)
                       have s1 := HS0.out _ b1)))
            all_goals
              go_wp2_with fail
              go_meet
              exact ⟨rfl, b4⟩
          case rest =>
          obtain ⟨rfl, HBC⟩ := hcut
          have HKC := Lib.hid (HKR.out.here HBC.out)
          obtain ⟨z0, z1, z2, z3, z4, z5, z6, z7, z8, z9, z10⟩ := mp11 HKC.out (m := m) (i := 1) rfl
          clear HX1 HX2 HX3 HX4
          go_wp2_with fail
          refine (HMV.out _ HKC.out.bl).mono ?_
          rintro e w6 ⟨rfl, hb6⟩
          have B6 := Lib.hid (HBC.out.trans (hb6.mono HBC.out.size))
          clear hb6 z0 z1 z2 z3 z4 z5 z6 z7 z8 z9 z10
          go_wp2_with fail
          refine (HX5.out _ B6.out).mono ?_
          rintro e w7 ⟨rfl, hb7⟩
          have B7 := Lib.hid (B6.out.trans (hb7.mono B6.out.size))
          clear hb7
          go_wp2_with fail
          refine (HX7.out _ B7.out).mono ?_
          rintro e w8 ⟨rfl, hb8⟩
          have B8 := Lib.hid (B7.out.trans (hb8.mono B7.out.size))
          clear hb8
          go_wp2_with fail
          refine (HX8.out _ B8.out).mono ?_
          rintro e w9 ⟨rfl, hb9⟩
          have B9 := Lib.hid (B8.out.trans (hb9.mono B8.out.size))
          clear hb9
          go_wp2_with fail
          refine (HX6.out _ B9.out).mono ?_
          rintro e wa ⟨rfl, hba⟩
          have Ba := Lib.hid (B9.out.trans (hba.mono B9.out.size))
          clear hba
          have HKa := Lib.hid (HKR.out.here Ba.out)
          go_wp2_with fail
          refine (HAW.out _ HKa.out.bl).mono ?_
          rintro e wb ⟨rfl, hbb⟩
          go_wp2_with fail
          first | go_ret | skip
          exact ⟨rfl, (HKa.out.here hbb).bl⟩
    · rw [HNL.out, if_neg h0, HNO.out h0] at oO oM oL oG oS ⊢
      dsimp only
      rw [show Res.none.lots.length = 0 from rfl, show Res.none.gains.length = 0 from rfl, show Res.none.steps.length = 0 from rfl, show ([] : List Lot).length = 0 from rfl]
      have HK2 := Lib.hid (HK1.out.here hb2)
      have HK3 := Lib.hid (HK2.out.new w2.heap.size rfl #[.slice A1 0 c1, .slice Ag 0 cg, .slice As 0 cs, .slice none 0 0] 35)
      clear oO oM oL oG oS hb2 h0
      go_wp2_with fail
      refine (HAW.out _ HK3.out.bl).mono ?_
      rintro e w4 ⟨rfl, hb4⟩
      go_wp2_with fail
      first | go_ret | skip
      exact ⟨rfl, (HK3.out.here hb4).bl⟩
end Go.Proofs.YtndndphfblijpaaGreatDoor
