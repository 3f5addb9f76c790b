/- The walk of the law LotmapSuccession. -/
import Derived.Test.YtndndphfblijpaaGreatDoorQGS25
import Derived.Test.YtndndphfblijpaaGreatDoorQGS26
namespace Go.Proofs.YtndndphfblijpaaGreatDoor
open Go.RowKit Go.Shelf
attribute [local go_sem ↓] Go.wp_at_zero Go.wp_at_succ

theorem thenL_bad {a b : Mp} (h : (thenL a b).2 ≠ 0) : (thenL a b).1 = Mp.none := by
  unfold thenL at h ⊢
  split
  · rfl
  · rename_i h1
    rw [if_neg h1] at h
    split
    · rfl
    · rename_i h2
      rw [if_neg h2] at h
      exact absurd rfl h
theorem frOf_z : frOf 0 = ⟨[], []⟩ := by
  have h := frOf_int 0
  rw [show ((0 : Int) : Rat) = 0 from rfl] at h
  rw [h]
  rfl
theorem frOf_nz {q : Rat} (h : q ≠ 0) : ((frOf q).n == []) = false := by
  rw [Bool.eq_false_iff]
  intro e
  have h1 : txtL q.num = [] := eq_of_beq e
  have h2 := txtL_nil.1 h1
  exact h (Rat.num_eq_zero.1 h2)
theorem succ_nums {ls : List Lot} {a : Mp} (h1 : (mapL ls a).2 = 0) (hq : ∀ y ∈ ls, y.q.length ≤ 13) (hra : a.ratio.Sz 10) (ha0 : 0 < a.ratio.rat) :
    0 ≤ totL ls a.inst (fun z => val z.q) ∧ (txtL (totL ls a.inst (fun z => val z.q))).length ≤ 18 ∧ 0 ≤ flo (((totL ls a.inst (fun z => val z.q) : Int) : Rat) * a.ratio.rat) ∧ (txtL (flo (((totL ls a.inst (fun z => val z.q) : Int) : Rat) * a.ratio.rat))).length ≤ 100 := by
  obtain ⟨hl, _⟩ := mapL_valid h1
  have hn : (lotsOf ls a.inst).length ≤ 1000 := Nat.le_trans (lotsOf_len ls a.inst) hl.len
  have h0 : 0 ≤ totL ls a.inst (fun z => val z.q) := sum_nonneg_ (old_nonneg (lotsOf_ok hl a.inst)).1
  have hT : (totL ls a.inst (fun z => val z.q)).natAbs < 10 ^ 17 := sum_lt (fun y hy => val_lt' (hq y (List.mem_filter.1 hy).1)) hn
  have hr := rb_mulq (rb_int hT (by omega)) ((sz_rb hra (by omega)).more (show 10 ≤ 17 by omega))
  have h2 : (0 : Rat) ≤ ((totL ls a.inst (fun z => val z.q) : Int) : Rat) * a.ratio.rat := Rat.mul_nonneg (by exact_mod_cast h0) (Rat.le_of_lt ha0)
  exact ⟨h0, txtL_length (L := 17) hT, flo_nonneg h2, Nat.le_trans (txtL_length (flo_lt hr (by omega))) (by omega)⟩
set_option maxRecDepth 100000 in
set_option maxHeartbeats 16000000 in
theorem succession_walk (A : Option Addr) (n c : Nat) (ls : List Lot) (a b : Mp) (w : World) (hp : Env w) (hs : Lots w w.heap.size A n ls) (hnil : (A = none ∧ c = 0) ∨ ∃ a, A = some a) (hn : n ≤ 9223372036854775807) (hi : ∀ y ∈ ls, y.I)
    (hma : a.Max) (hda : -9223372036854775808 ≤ a.day ∧ a.day ≤ 9223372036854775807) (hmb : b.Max) (hdb : -9223372036854775808 ≤ b.day ∧ b.day ≤ 9223372036854775807) :
    Calls Tryz.prog 4 #[.slice A n c, MpV a, MpV b] w fun e w' => e = .returned (.bool true) ∧ Below w.heap.size w w' := by
  have HGR := Lib.hid (fun W (hb : Below w.heap.size w W) => lwGreat_any A n c ls a W (hs.here hb) hn hma)
  have HLB := Lib.hid (fun W => lwLong_any b W hmb)
  have HAW := Lib.hid (fun W (hb : Below w.heap.size w W) => lwAwake_any W (hp.here hb))
  have HK0 := Lib.hid (show Kp w [(w.heap.size + 1, #[.string ⟨b.cause.toArray⟩, .int .i64 b.day, .string ⟨b.inst.toArray⟩, .string ⟨b.other.toArray⟩, .string ⟨b.ratio.n.toArray⟩, .string ⟨b.ratio.d.toArray⟩, .string ⟨b.share.n.toArray⟩, .string ⟨b.share.d.toArray⟩, .string ⟨b.price.n.toArray⟩, .string ⟨b.price.d.toArray⟩, .bool b.keep], 28), (w.heap.size, #[.string ⟨a.cause.toArray⟩, .int .i64 a.day, .string ⟨a.inst.toArray⟩, .string ⟨a.other.toArray⟩, .string ⟨a.ratio.n.toArray⟩, .string ⟨a.ratio.d.toArray⟩, .string ⟨a.share.n.toArray⟩, .string ⟨a.share.d.toArray⟩, .string ⟨a.price.n.toArray⟩, .string ⟨a.price.d.toArray⟩, .bool a.keep], 28)] ((w.alloc (.cells #[.string ⟨a.cause.toArray⟩, .int .i64 a.day, .string ⟨a.inst.toArray⟩, .string ⟨a.other.toArray⟩, .string ⟨a.ratio.n.toArray⟩, .string ⟨a.ratio.d.toArray⟩, .string ⟨a.share.n.toArray⟩, .string ⟨a.share.d.toArray⟩, .string ⟨a.price.n.toArray⟩, .string ⟨a.price.d.toArray⟩, .bool a.keep] 28)).alloc (.cells #[.string ⟨b.cause.toArray⟩, .int .i64 b.day, .string ⟨b.inst.toArray⟩, .string ⟨b.other.toArray⟩, .string ⟨b.ratio.n.toArray⟩, .string ⟨b.ratio.d.toArray⟩, .string ⟨b.share.n.toArray⟩, .string ⟨b.share.d.toArray⟩, .string ⟨b.price.n.toArray⟩, .string ⟨b.price.d.toArray⟩, .bool b.keep] 28)) from ((Kp.start hp).new w.heap.size rfl _ _).new (w.heap.size + 1) (by simp) _ _)
  obtain ⟨a0, a1, a2, a3, a4, a5, a6, a7, a8, a9, a10⟩ := z11 HK0.out (i := 1) rfl
  unfold MpV at HGR HLB ⊢
  rw [mpA_eq] at HGR HLB
  rw [mpA_eq, mpA_eq]
  cases hg : (grtL ls || longM a) with
  | true =>
    rw [hg] at HGR
    clear hp hs hnil hn hi hma hmb hda hdb hg
    go_enter Tryz.func4, Tryz.ntmps4
    go_wp2_with fail
    generalize ((w.alloc (.cells #[.string ⟨a.cause.toArray⟩, .int .i64 a.day, .string ⟨a.inst.toArray⟩, .string ⟨a.other.toArray⟩, .string ⟨a.ratio.n.toArray⟩, .string ⟨a.ratio.d.toArray⟩, .string ⟨a.share.n.toArray⟩, .string ⟨a.share.d.toArray⟩, .string ⟨a.price.n.toArray⟩, .string ⟨a.price.d.toArray⟩, .bool a.keep] 28)).alloc (.cells #[.string ⟨b.cause.toArray⟩, .int .i64 b.day, .string ⟨b.inst.toArray⟩, .string ⟨b.other.toArray⟩, .string ⟨b.ratio.n.toArray⟩, .string ⟨b.ratio.d.toArray⟩, .string ⟨b.share.n.toArray⟩, .string ⟨b.share.d.toArray⟩, .string ⟨b.price.n.toArray⟩, .string ⟨b.price.d.toArray⟩, .bool b.keep] 28)) = W0 at *
    refine (HGR.out _ HK0.out.bl).mono ?_
    rintro e w1 ⟨rfl, hb1⟩
    have HK1 := Lib.hid (HK0.out.here hb1)
    clear a0 a1 a2 a3 a4 a5 a6 a7 a8 a9 a10 hb1
    go_wp2_with fail
    refine (HAW.out _ HK1.out.bl).mono ?_
    rintro e wz ⟨rfl, hbz⟩
    go_wp2_with fail
    first | go_ret | skip
    exact ⟨rfl, (HK1.out.here hbz).bl⟩
  | false =>
    rw [hg] at HGR
    simp only [Bool.or_eq_false_iff] at hg
    obtain ⟨hn2, hsz⟩ := grtL_no hg.1 hi
    obtain ⟨har, hash, hapr, haz⟩ := longM_no hg.2 hda.1 hda.2
    have hn1 : n ≤ 1002 := by rw [hs.1]; exact hn2
    cases hg2 : longM b with
    | true =>
      rw [hg2] at HLB
      clear hp hs hnil hn hi hma hmb hda hdb hg hg2 hn2 hsz har hash hapr haz hn1
      go_enter Tryz.func4, Tryz.ntmps4
      go_wp2_with fail
      generalize ((w.alloc (.cells #[.string ⟨a.cause.toArray⟩, .int .i64 a.day, .string ⟨a.inst.toArray⟩, .string ⟨a.other.toArray⟩, .string ⟨a.ratio.n.toArray⟩, .string ⟨a.ratio.d.toArray⟩, .string ⟨a.share.n.toArray⟩, .string ⟨a.share.d.toArray⟩, .string ⟨a.price.n.toArray⟩, .string ⟨a.price.d.toArray⟩, .bool a.keep] 28)).alloc (.cells #[.string ⟨b.cause.toArray⟩, .int .i64 b.day, .string ⟨b.inst.toArray⟩, .string ⟨b.other.toArray⟩, .string ⟨b.ratio.n.toArray⟩, .string ⟨b.ratio.d.toArray⟩, .string ⟨b.share.n.toArray⟩, .string ⟨b.share.d.toArray⟩, .string ⟨b.price.n.toArray⟩, .string ⟨b.price.d.toArray⟩, .bool b.keep] 28)) = W0 at *
      refine (HGR.out _ HK0.out.bl).mono ?_
      rintro e w1 ⟨rfl, hb1⟩
      have HK1 := Lib.hid (HK0.out.here hb1)
      clear a0 a1 a2 a3 a4 a5 a6 a7 a8 a9 a10 hb1
      obtain ⟨b0, b1, b2, b3, b4, b5, b6, b7, b8, b9, b10⟩ := z11 HK1.out (i := 0) rfl
      go_wp2_with fail
      refine (HLB.out _).mono ?_
      rintro e w2 ⟨rfl, hb2⟩
      have HK2 := Lib.hid (HK1.out.here hb2)
      clear b0 b1 b2 b3 b4 b5 b6 b7 b8 b9 b10 hb2
      go_wp2_with fail
      refine (HAW.out _ HK2.out.bl).mono ?_
      rintro e wz ⟨rfl, hbz⟩
      go_wp2_with fail
      first | go_ret | skip
      exact ⟨rfl, (HK2.out.here hbz).bl⟩
    | false =>
      rw [hg2] at HLB
      obtain ⟨hbr, hbsh, hbpr, hbz⟩ := longM_no hg2 hdb.1 hdb.2
      have hls5 : ∀ y ∈ ls, y.Sz 50000 := fun y hy => (hsz y hy).1.more (by omega)
      have hq13 : ∀ y ∈ ls, y.q.length ≤ 13 := fun y hy => (hsz y hy).2.1
      have hc13 : ∀ y ∈ ls, y.c.length ≤ 13 := fun y hy => (hsz y hy).2.2
      have haz5 : a.Sz 5000 ∨ a.Bad := haz.imp (fun h => h.more (by omega)) id
      have hbz5 : b.Sz 5000 ∨ b.Bad := hbz.imp (fun h => h.more (by omega)) id
      have HTH := Lib.hid (fun W hW => then_any a b W hW haz5 hbz5 (har.more (by omega)) (hbr.more (by omega)))
      have HLO := Lib.hid (fun i W (hb : Below w.heap.size w W) => lotOf_any A n c ls i W (hs.here hb) (by omega))
      have HM1 := Lib.hid (fun W (hb : Below w.heap.size w W) => map_any A n c ls a W 13 (hp.here hb) (hs.here hb) hnil (by omega) hls5 haz5 (by decide) (by decide) hq13 hc13 (har.more (by omega)) (hash.more (by omega)) (hapr.more (by omega)))
      have hlen := mapL_len (m := a) (L := 13) (by decide) (by decide) (fun y hy => ⟨hq13 y hy, hc13 y hy⟩) hls5 (har.more (by omega)) (hapr.more (by omega))
      have HM2 := Lib.hid (fun W A1 c1 (hW : Env W) (ho : Lots W W.heap.size A1 (mapL ls a).1.lots.length (mapL ls a).1.lots) hnil1 => map_any A1 (mapL ls a).1.lots.length c1 (mapL ls a).1.lots b W 94 hW ho hnil1 (by have := hlen.2.2.2.1; omega) (fun y hy => (hlen.1 y hy).2.2) hbz5 (by decide) (by decide) (fun y hy => (hlen.1 y hy).1) (fun y hy => (hlen.1 y hy).2.1) (hbr.more (by omega)) (hbsh.more (by omega)) (hbpr.more (by omega)))
      have hlen2 := mapL_len (m := b) (ls := (mapL ls a).1.lots) (L := 94) (by decide) (by decide) (fun y hy => ⟨(hlen.1 y hy).1, (hlen.1 y hy).2.1⟩) (fun y hy => (hlen.1 y hy).2.2) (hbr.more (by omega)) (hbpr.more (by omega))
      have HG12 := Lib.hid (show (mapL ls a).1.gains.length ≤ 1000 ∧ (mapL (mapL ls a).1.lots b).1.gains.length ≤ 1000 from ⟨hlen.2.2.2.2.1, hlen2.2.2.2.2.1⟩)
      have HTO2 := Lib.hid (fun W A2 c2 (hW : Env W) (ho : Lots W W.heap.size A2 (mapL (mapL ls a).1.lots b).1.lots.length (mapL (mapL ls a).1.lots b).1.lots) => total_any A2 (mapL (mapL ls a).1.lots b).1.lots.length c2 (mapL (mapL ls a).1.lots b).1.lots b.other W hW ho (by have := hlen2.2.2.2.1; omega) (fun y hy => (hlen2.1 y hy).2.2.q) (fun y hy => (hlen2.1 y hy).2.2.c))
      have HSU := Lib.hid (@succession ls a b)
      have HPL := Lib.hid hp; have HS := Lib.hid hs; have HNIL := Lib.hid hnil; have HN1 := Lib.hid hn1; have HL5 := Lib.hid hls5; have HQ13 := Lib.hid (And.intro hq13 hc13)
      have HFR := Lib.hid (And.intro har (And.intro hbr (And.intro hbsh hbpr)))
      have HDB := Lib.hid hdb
      have r1 := har.1; have r2 := har.2; have r3 := hbr.1; have r4 := hbr.2
      clear hp hs hnil hn hi hma hmb hda hdb hg hg2 hn2 hsz har hash hapr haz hn1 hbr hbsh hbpr hbz hls5 hq13 hc13 haz5 hbz5 hlen hlen2
      go_enter Tryz.func4, Tryz.ntmps4
      go_wp2_with fail
      generalize ((w.alloc (.cells #[.string ⟨a.cause.toArray⟩, .int .i64 a.day, .string ⟨a.inst.toArray⟩, .string ⟨a.other.toArray⟩, .string ⟨a.ratio.n.toArray⟩, .string ⟨a.ratio.d.toArray⟩, .string ⟨a.share.n.toArray⟩, .string ⟨a.share.d.toArray⟩, .string ⟨a.price.n.toArray⟩, .string ⟨a.price.d.toArray⟩, .bool a.keep] 28)).alloc (.cells #[.string ⟨b.cause.toArray⟩, .int .i64 b.day, .string ⟨b.inst.toArray⟩, .string ⟨b.other.toArray⟩, .string ⟨b.ratio.n.toArray⟩, .string ⟨b.ratio.d.toArray⟩, .string ⟨b.share.n.toArray⟩, .string ⟨b.share.d.toArray⟩, .string ⟨b.price.n.toArray⟩, .string ⟨b.price.d.toArray⟩, .bool b.keep] 28)) = W0 at *
      refine (HGR.out _ HK0.out.bl).mono ?_
      rintro e w1 ⟨rfl, hb1⟩
      have HK1 := Lib.hid (HK0.out.here hb1)
      clear a0 a1 a2 a3 a4 a5 a6 a7 a8 a9 a10 hb1 HK0 HGR
      obtain ⟨b0, b1, b2, b3, b4, b5, b6, b7, b8, b9, b10⟩ := z11 HK1.out (i := 0) rfl
      go_wp2_with fail
      refine (HLB.out _).mono ?_
      rintro e w2 ⟨rfl, hb2⟩
      have HK2 := Lib.hid (HK1.out.here hb2)
      clear b0 b1 b2 b3 b4 b5 b6 b7 b8 b9 b10 hb2 HK1 HLB
      obtain ⟨a0, a1, a2, a3, a4, a5, a6, a7, a8, a9, a10⟩ := z11 HK2.out (i := 1) rfl
      obtain ⟨b0, b1, b2, b3, b4, b5, b6, b7, b8, b9, b10⟩ := z11 HK2.out (i := 0) rfl
      by_cases hS : 10 < a.ratio.n.length + a.ratio.d.length + b.ratio.n.length + b.ratio.d.length
      · have hS2 : (10 : Int) < (a.ratio.n.length : Int) + (a.ratio.d.length : Int) + (b.ratio.n.length : Int) + (b.ratio.d.length : Int) := by omega
        clear hS
        go_wp2_with fail
        refine (HAW.out _ HK2.out.bl).mono ?_
        rintro e wz ⟨rfl, hbz⟩
        go_wp2_with fail
        first | go_ret | skip
        exact ⟨rfl, (HK2.out.here hbz).bl⟩
      · have hS2 : ¬ (10 : Int) < (a.ratio.n.length : Int) + (a.ratio.d.length : Int) + (b.ratio.n.length : Int) + (b.ratio.d.length : Int) := by omega
        clear hS
        unfold ThenPost MpV at HTH
        rw [mpA_eq, mpA_eq, mpA_eq] at HTH
        go_wp2_with fail
        refine (HTH.out _ HK2.out.pw).mono ?_
        rintro e w3 ⟨rfl, hb3⟩
        clear a0 a1 a2 a3 a4 a5 a6 a7 a8 a9 a10 b0 b1 b2 b3 b4 b5 b6 b7 b8 b9 b10 r1 r2 r3 r4 hS2 HTH
        by_cases hth : (thenL a b).2 = 0
        · have hok := thenL_ok hth
          have HOK := Lib.hid hok
          obtain ⟨hao, hbo, hab, hak, hbk, hd, hdo⟩ := hok
          have hdr : (thenL a b).1.ratio.Sz 94 := by
            rw [hd]
            exact (frOf_sz (rb_mul HFR.out.1 HFR.out.2.1 (by omega))).more (by omega)
          have hdz : (thenL a b).1.Sz 5000 ∨ (thenL a b).1.Bad := .inl ⟨by have := name_sz hdo.cause; omega, by have := name_sz hdo.inst; omega, by have := name_sz hdo.other; omega, hdr.more (by omega), by rw [hd]; exact HFR.out.2.2.1.more (by omega), by rw [hd]; exact HFR.out.2.2.2.more (by omega), by rw [hd]; exact HDB.out.1, by rw [hd]; exact HDB.out.2⟩
          have hds : (thenL a b).1.share.Sz 94 := by rw [hd]; exact HFR.out.2.2.1.more (by omega)
          have hdp : (thenL a b).1.price.Sz 94 := by rw [hd]; exact HFR.out.2.2.2.more (by omega)
          have HM3 := Lib.hid (fun W (hb : Below w.heap.size w W) => map_any A n c ls (thenL a b).1 W 94 (HPL.out.here hb) (HS.out.here hb) HNIL.out (by have := HN1.out; omega) HL5.out hdz (by decide) (by decide) (fun y hy => by have := HQ13.out.1 y hy; omega) (fun y hy => by have := HQ13.out.2 y hy; omega) hdr hds hdp)
          have hlen3 := mapL_len (m := (thenL a b).1) (ls := ls) (L := 94) (by decide) (by decide) (fun y hy => ⟨by have := HQ13.out.1 y hy; omega, by have := HQ13.out.2 y hy; omega⟩) HL5.out hdr hdp
          have HTO3 := Lib.hid (fun W A3 c3 (hW : Env W) (ho : Lots W W.heap.size A3 (mapL ls (thenL a b).1).1.lots.length (mapL ls (thenL a b).1).1.lots) => total_any A3 (mapL ls (thenL a b).1).1.lots.length c3 (mapL ls (thenL a b).1).1.lots b.other W hW ho (by have := hlen3.2.2.2.1; omega) (fun y hy => (hlen3.1 y hy).2.2.q) (fun y hy => (hlen3.1 y hy).2.2.c))
          have HSU2 := Lib.hid (HSU.out hth)
          have HRO := Lib.hid (And.intro (And.intro hao.ratio hao.r0) (And.intro hbo.ratio hbo.r0))
          rw [hth]
          clear hao hbo hab hak hbk hd hdo hdr hdz hds hdp hlen3 hth HOK HSU
          generalize (thenL a b).1 = d at *
          have HK3 := Lib.hid ((HK2.out.here hb3).new w3.heap.size rfl #[.string ⟨d.cause.toArray⟩, .int .i64 d.day, .string ⟨d.inst.toArray⟩, .string ⟨d.other.toArray⟩, .string ⟨d.ratio.n.toArray⟩, .string ⟨d.ratio.d.toArray⟩, .string ⟨d.share.n.toArray⟩, .string ⟨d.share.d.toArray⟩, .string ⟨d.price.n.toArray⟩, .string ⟨d.price.d.toArray⟩, .bool d.keep] 28)
          clear hb3 HK2
          unfold MpV at HM1 HM2 HM3
          rw [mpA_eq] at HM1 HM2 HM3
          unfold RetOwn S at HLO
          by_cases hexit : lotsOf ls a.other ≠ [] ∧ a.other ≠ a.inst
          · obtain ⟨a0, a1, a2, a3, a4, a5, a6, a7, a8, a9, a10⟩ := z11 HK3.out (i := 2) rfl
            have q0 : (0 : Int) < ((lotsOf ls a.other).length : Int) := by
              have : (lotsOf ls a.other).length ≠ 0 := fun h => hexit.1 (List.length_eq_zero_iff.1 h)
              omega
            have q1 : (a.other == a.inst) = false := by simpa using hexit.2
            have q2 : (a.other != a.inst) = true := by simpa using hexit.2
            clear hexit
            go_wp2_with fail
            refine (HLO.out a.other _ HK3.out.bl).mono ?_
            rintro e w4 ⟨A5, c5, rfl, ho5, hb4⟩
            have HK4 := Lib.hid (HK3.out.here hb4)
            clear ho5 hb4 a0 a1 a2 a3 a4 a5 a6 a7 a8 a9 a10
            obtain ⟨a0, a1, a2, a3, a4, a5, a6, a7, a8, a9, a10⟩ := z11 HK4.out (i := 2) rfl
            go_wp2_with fail
            refine (HAW.out _ HK4.out.bl).mono ?_
            rintro e wz ⟨rfl, hbz⟩
            go_wp2_with fail
            first | go_ret | skip
            exact ⟨rfl, (HK4.out.here hbz).bl⟩
          · have HNO := Lib.hid (show lotsOf ls a.other = [] ∨ a.other = a.inst by
              by_cases h1 : lotsOf ls a.other = []
              · exact .inl h1
              · exact .inr (Classical.not_not.1 (fun h2 => hexit ⟨h1, h2⟩)))
            clear hexit
            go_upto_region 4 with (fail)
            go_cut [77] (fun v wc => v = .bool false ∧ Hid (Kp w [(w3.heap.size, #[.string ⟨d.cause.toArray⟩, .int .i64 d.day, .string ⟨d.inst.toArray⟩, .string ⟨d.other.toArray⟩, .string ⟨d.ratio.n.toArray⟩, .string ⟨d.ratio.d.toArray⟩, .string ⟨d.share.n.toArray⟩, .string ⟨d.share.d.toArray⟩, .string ⟨d.price.n.toArray⟩, .string ⟨d.price.d.toArray⟩, .bool d.keep], 28), (w.heap.size + 1, #[.string ⟨b.cause.toArray⟩, .int .i64 b.day, .string ⟨b.inst.toArray⟩, .string ⟨b.other.toArray⟩, .string ⟨b.ratio.n.toArray⟩, .string ⟨b.ratio.d.toArray⟩, .string ⟨b.share.n.toArray⟩, .string ⟨b.share.d.toArray⟩, .string ⟨b.price.n.toArray⟩, .string ⟨b.price.d.toArray⟩, .bool b.keep], 28), (w.heap.size, #[.string ⟨a.cause.toArray⟩, .int .i64 a.day, .string ⟨a.inst.toArray⟩, .string ⟨a.other.toArray⟩, .string ⟨a.ratio.n.toArray⟩, .string ⟨a.ratio.d.toArray⟩, .string ⟨a.share.n.toArray⟩, .string ⟨a.share.d.toArray⟩, .string ⟨a.price.n.toArray⟩, .string ⟨a.price.d.toArray⟩, .bool a.keep], 28)] wc))
            case first =>
              obtain ⟨a0, a1, a2, a3, a4, a5, a6, a7, a8, a9, a10⟩ := z11 HK3.out (i := 2) rfl
              go_wp2_with fail
              refine (HLO.out a.other _ HK3.out.bl).mono ?_
              rintro e w4 ⟨A5, c5, rfl, ho5, hb4⟩
              have HK4 := Lib.hid (HK3.out.here hb4)
              clear ho5 hb4 a0 a1 a2 a3 a4 a5 a6 a7 a8 a9 a10
              obtain ⟨a0, a1, a2, a3, a4, a5, a6, a7, a8, a9, a10⟩ := z11 HK4.out (i := 2) rfl
              by_cases h1 : lotsOf ls a.other = []
              · have q0 : (lotsOf ls a.other).length = 0 := by rw [h1]; rfl
                clear h1
                go_wp2_with fail
                go_meet
                exact ⟨rfl, HK4⟩
              · have q0 : (0 : Int) < ((lotsOf ls a.other).length : Int) := by
                  have : (lotsOf ls a.other).length ≠ 0 := fun h => h1 (List.length_eq_zero_iff.1 h)
                  omega
                have hai := HNO.out.resolve_left h1
                have q1 : (a.other == a.inst) = true := by simp [hai]
                have q2 : (a.other != a.inst) = false := by simp [hai]
                clear h1 hai
                go_wp2_with fail
                go_meet
                exact ⟨rfl, HK4⟩
            case rest =>
            obtain ⟨rfl, HK4⟩ := hcut
            clear HK3
            obtain ⟨a0, a1, a2, a3, a4, a5, a6, a7, a8, a9, a10⟩ := z11 HK4.out (i := 2) rfl
            go_wp2_with fail
            refine (HM1.out _ HK4.out.bl).mono ?_
            rintro e w5 ⟨A1, c1, Ag1, cg1, As1, cs1, rfl, oL1, oG1, oS1, hb5⟩
            clear a0 a1 a2 a3 a4 a5 a6 a7 a8 a9 a10 HM1
            have HK5 := Lib.hid ((HK4.out.here hb5).new w5.heap.size rfl #[.slice A1 (mapL ls a).1.lots.length c1, .slice Ag1 (mapL ls a).1.gains.length cg1, .slice As1 (mapL ls a).1.steps.length cs1, .slice none 0 0] 35)
            have HL1 := Lib.hid ((oL1.base_ HK4.out.bl.size).alloc (.cells #[.slice A1 (mapL ls a).1.lots.length c1, .slice Ag1 (mapL ls a).1.gains.length cg1, .slice As1 (mapL ls a).1.steps.length cs1, .slice none 0 0] 35))
            clear oL1 oG1 oS1 hb5
            by_cases he1 : (mapL ls a).2 = 0
            · rw [he1]
              have HE1 := Lib.hid he1
              clear he1
              have g0 := HK5.out.c 0 0 rfl rfl
              obtain ⟨b0, b1, b2, b3, b4, b5, b6, b7, b8, b9, b10⟩ := z11 HK5.out (i := 2) rfl
              go_wp2_with fail
              refine (HM2.out _ A1 c1 HK5.out.pw (HL1.out.sl L7_len) ((own_nil HL1.out).imp id (fun ⟨_, _, h⟩ => ⟨_, h⟩))).mono ?_
              rintro e w6 ⟨A2, c2, Ag2, cg2, As2, cs2, rfl, oL2, oG2, oS2, hb6⟩
              clear g0 b0 b1 b2 b3 b4 b5 b6 b7 b8 b9 b10 HM2
              have HK6 := Lib.hid ((HK5.out.here hb6).new w6.heap.size rfl #[.slice A2 (mapL (mapL ls a).1.lots b).1.lots.length c2, .slice Ag2 (mapL (mapL ls a).1.lots b).1.gains.length cg2, .slice As2 (mapL (mapL ls a).1.lots b).1.steps.length cs2, .slice none 0 0] 35)
              have HL2 := Lib.hid ((oL2.base_ HK5.out.bl.size).alloc (.cells #[.slice A2 (mapL (mapL ls a).1.lots b).1.lots.length c2, .slice Ag2 (mapL (mapL ls a).1.lots b).1.gains.length cg2, .slice As2 (mapL (mapL ls a).1.lots b).1.steps.length cs2, .slice none 0 0] 35))
              clear oL2 oG2 oS2 hb6 HL1
              have k1 := HK6.out.c 1 1 rfl rfl
              have gn1 := HG12.out.1; have gn2 := HG12.out.2
              by_cases he2 : (mapL (mapL ls a).1.lots b).2 = 0
              · rw [he2]
                have HE2 := Lib.hid he2
                clear he2
                by_cases hg0 : 0 < (mapL ls a).1.gains.length + (mapL (mapL ls a).1.lots b).1.gains.length
                · have hg1 : (0 : Int) < ((mapL ls a).1.gains.length : Int) + ((mapL (mapL ls a).1.lots b).1.gains.length : Int) := by omega
                  clear hg0
                  go_wp2_with fail
                  refine (HAW.out _ HK6.out.bl).mono ?_
                  rintro e wz ⟨rfl, hbz⟩
                  go_wp2_with fail
                  first | go_ret | skip
                  exact ⟨rfl, (HK6.out.here hbz).bl⟩
                · have hg1 : ¬ (0 : Int) < ((mapL ls a).1.gains.length : Int) + ((mapL (mapL ls a).1.lots b).1.gains.length : Int) := by omega
                  clear hg0
                  go_upto_region 12 with (fail)
                  clear k1 gn1 gn2 hg1
                  obtain ⟨hT0, hTl, hU0, hUl⟩ := succ_nums HE1.out HQ13.out.1 HFR.out.1 HRO.out.1.2
                  have HSU3 := Lib.hid (HSU2.out HNO.out HE1.out HE2.out)
                  have HSQ := Lib.hid (fun W A c (hW : Env W) (ho : Lots W W.heap.size A (lotsOf ls a.inst).length (lotsOf ls a.inst)) => lwSumQ_any A (lotsOf ls a.inst).length c (lotsOf ls a.inst) W hW ho (fun y hy => by have := HQ13.out.1 y (List.mem_filter.1 hy).1; omega) (by have h1 := lotsOf_len ls a.inst; have h2 := HN1.out; have h3 := HS.out.1; omega))
                  rw [show selS (·.q) (lotsOf ls a.inst) = totL ls a.inst (fun z => val z.q) from rfl] at HSQ
                  have HP1 := Lib.hid (fun W hW => parts_ok (txtL (totL ls a.inst (fun z => val z.q))) a.ratio W hW (by rw [val_txtL]) (by omega) HRO.out.1.1 (HFR.out.1.more (by omega)) (by rw [val_txtL]; exact hT0) HRO.out.1.2)
                  have HP2 := Lib.hid (fun W hW => parts_ok (txtL (flo (((totL ls a.inst (fun z => val z.q) : Int) : Rat) * a.ratio.rat))) b.ratio W hW (by rw [val_txtL]) (by omega) HRO.out.2.1 (HFR.out.2.1.more (by omega)) (by rw [val_txtL]; exact hU0) HRO.out.2.2)
                  rw [val_txtL] at HP1 HP2
                  unfold StrPost S at HSQ
                  unfold PartsPost FrV S at HP1 HP2
                  clear hT0 hTl hU0 hUl HSU2
                  generalize txtL (totL ls a.inst (fun z => val z.q)) = t0 at *
                  generalize ((totL ls a.inst (fun z => val z.q) : Int) : Rat) * a.ratio.rat = q1 at *
                  generalize txtL (flo q1) = t1 at *
                  generalize ((flo q1 : Int) : Rat) * b.ratio.rat = q2 at *
                  generalize txtL (flo q2) = t2 at *
                  have HF1 := Lib.hid (show q1 - ((flo q1 : Int) : Rat) = 0 ∧ frOf (q1 - ((flo q1 : Int) : Rat)) = ⟨[], []⟩ ∨ ((frOf (q1 - ((flo q1 : Int) : Rat))).n == []) = false by
                    by_cases h : q1 - ((flo q1 : Int) : Rat) = 0
                    · exact .inl ⟨h, by rw [h]; exact frOf_z⟩
                    · exact .inr (frOf_nz h))
                  have HF2 := Lib.hid (show q2 - ((flo q2 : Int) : Rat) = 0 ∧ frOf (q2 - ((flo q2 : Int) : Rat)) = ⟨[], []⟩ ∨ ((frOf (q2 - ((flo q2 : Int) : Rat))).n == []) = false by
                    by_cases h : q2 - ((flo q2 : Int) : Rat) = 0
                    · exact .inl ⟨h, by rw [h]; exact frOf_z⟩
                    · exact .inr (frOf_nz h))
                  generalize frOf (q1 - ((flo q1 : Int) : Rat)) = f1 at *
                  generalize frOf (q2 - ((flo q2 : Int) : Rat)) = f2 at *
                  generalize q1 - ((flo q1 : Int) : Rat) = p1 at *
                  generalize q2 - ((flo q2 : Int) : Rat) = p2 at *
                  have HLI := Lib.hid (fun W hW => HLO.out a.inst W hW)
                  generalize (w6.alloc (.cells #[.slice A2 (mapL (mapL ls a).1.lots b).1.lots.length c2, .slice Ag2 (mapL (mapL ls a).1.lots b).1.gains.length cg2, .slice As2 (mapL (mapL ls a).1.lots b).1.steps.length cs2, .slice none 0 0] 35)) = W6 at *
                  have H0 := Lib.hid (Kp.start HK6.out.pw)
                  have HX := Lib.hid (show ∀ X bs, Kp W6 bs X → Below w.heap.size w X from fun X bs h => (HK6.out.here h.bl).bl)
                  have HRT := Lib.hid (show ∀ X bs, Kp W6 bs X → X.cell? ⟨w.heap.size, 2, none⟩ = some (.string ⟨a.inst.toArray⟩) ∧ X.cell? ⟨w.heap.size, 4, none⟩ = some (.string ⟨a.ratio.n.toArray⟩) ∧ X.cell? ⟨w.heap.size, 5, none⟩ = some (.string ⟨a.ratio.d.toArray⟩) from fun X bs h => ⟨(HK6.out.here h.bl).c 4 2 rfl rfl, (HK6.out.here h.bl).c 4 4 rfl rfl, (HK6.out.here h.bl).c 4 5 rfl rfl⟩)
                  have HPA := Lib.hid ((H0.out.new W6.heap.size rfl #[.string ⟨#[]⟩, .string ⟨#[]⟩] 26).drew)
                  go_cut [13, 14, 15] (fun s p v wc => s = .string ⟨t1.toArray⟩ ∧ v = .int .i64 0 ∧ ∃ P14, p = .pointer (some ⟨P14, 0, none⟩) ∧ Hid (Kp W6 [(P14, #[.string ⟨f1.n.toArray⟩, .string ⟨f1.d.toArray⟩], 26)] wc))
                  case first =>
                    obtain ⟨s00, s01, s02⟩ := HRT.out _ _ H0.out
                    have s0a := HRT.out _ _ HPA.out
                    go_region_held3 (fun X => X.cell? ⟨w.heap.size, 2, none⟩ = some (.string ⟨a.inst.toArray⟩) ∧ X.cell? ⟨w.heap.size, 4, none⟩ = some (.string ⟨a.ratio.n.toArray⟩) ∧ X.cell? ⟨w.heap.size, 5, none⟩ = some (.string ⟨a.ratio.d.toArray⟩))
                      (first
                        | with_reducible exact s4
                        | with_reducible exact s3a
                        | with_reducible exact s3
                        | with_reducible exact s2a
                        | with_reducible exact s2
                        | with_reducible exact s1a
                        | with_reducible exact s1
                        | with_reducible exact s0a
                        | go_keep)
                      (first
                        | (go_at_call 17; first
                            | (refine (HLI.out _ (HX.out _ _ H0.out.drew)).mono ?_; rintro e y1 ⟨A5, c5, rfl, ho5, hy⟩
                               have g1 := H0.out.drew.here hy
                               have s1 := HRT.out _ _ g1
                               have g1a := g1.new y1.heap.size rfl #[.string ⟨#[]⟩, .string ⟨#[]⟩] 26
                               have s1a := HRT.out _ _ g1a
                               have o1a := ho5.alloc (.cells #[.string ⟨#[]⟩, .string ⟨#[]⟩] 26))
                            | (refine (HLI.out _ (HX.out _ _ HPA.out)).mono ?_; rintro e y1 ⟨A5, c5, rfl, ho5, hy⟩
                               have g1 := HPA.out.here hy
                               have s1 := HRT.out _ _ g1))
                        | (go_at_call 11; first
                            | (refine (HSQ.out _ _ _ g1.pw (ho5.sl L7_len)).mono ?_; rintro e y2 ⟨rfl, hy⟩
                               have g2 := g1.here hy)
                            | (refine (HSQ.out _ _ _ g1a.pw (o1a.sl L7_len)).mono ?_; rintro e y2 ⟨rfl, hy⟩
                               have g2 := g1a.here hy)
                           first
                            | (have s2 := HRT.out _ [] g2
                               have g2a := g2.new y2.heap.size rfl #[.string ⟨#[]⟩, .string ⟨#[]⟩] 26
                               have s2a := HRT.out _ _ g2a)
                            | (have s2 := HRT.out _ _ g2))
                        | (go_at_call 19; first
                            | (refine (HP1.out _ g2.pw).mono ?_; rintro e y3 ⟨rfl, hy⟩
                               have g3 := g2.here hy)
                            | (refine (HP1.out _ g2a.pw).mono ?_; rintro e y3 ⟨rfl, hy⟩
                               have g3 := g2a.here hy)
                           first
                            | (have s3 := HRT.out _ [] g3
                               have g3a := g3.new y3.heap.size rfl #[.string ⟨#[]⟩, .string ⟨#[]⟩] 26
                               have s3a := HRT.out _ _ g3a
                               have g4 := (g3a.set 0 0 rfl (.string ⟨f1.n.toArray⟩)).set 0 1 rfl (.string ⟨f1.d.toArray⟩)
                               have s4 := HRT.out _ _ g4)
                            | (have s3 := HRT.out _ _ g3
                               have n0 := g3.c 0 0 rfl rfl; have n1 := g3.c 0 1 rfl rfl
                               have z0 := g3.f 0 0 rfl; have z1 := g3.f 0 1 rfl
                               have g4 := (g3.set 0 0 rfl (.string ⟨f1.n.toArray⟩)).set 0 1 rfl (.string ⟨f1.d.toArray⟩)
                               have s4 := HRT.out _ _ g4)))
                    all_goals
                      go_wp2_with fail
                      go_meet
                      first
                        | exact ⟨rfl, rfl, _, rfl, g4⟩
                        | exact ⟨rfl, rfl, _, rfl, g3.new _ rfl _ _⟩
                  case rest =>
                  obtain ⟨rfl, rfl, P14, rfl, H1⟩ := hcut
                  clear H0 HPA HRT HLI HSQ HP1
                  have HRT := Lib.hid (show ∀ X bs, Kp W6 bs X → X.cell? ⟨w.heap.size + 1, 4, none⟩ = some (.string ⟨b.ratio.n.toArray⟩) ∧ X.cell? ⟨w.heap.size + 1, 5, none⟩ = some (.string ⟨b.ratio.d.toArray⟩) from fun X bs h => ⟨(HK6.out.here h.bl).c 3 4 rfl rfl, (HK6.out.here h.bl).c 3 5 rfl rfl⟩)
                  obtain ⟨s00, s01⟩ := HRT.out _ _ H1.out
                  go_wp2_with fail
                  refine (HP2.out _ H1.out.pw).mono ?_
                  rintro e w8 ⟨rfl, hb8⟩
                  have H1' := Lib.hid (H1.out.here hb8)
                  clear hb8 s00 s01 H1 HRT HP2
                  rcases HF1.out with ⟨hp1, hf1⟩ | hf1
                  · rcases HF2.out with ⟨hp2, hf2⟩ | hf2
                    · rw [hf2]
                      have H2 := Lib.hid (show Kp W6 [(w8.heap.size, #[.string ⟨#[]⟩, .string ⟨#[]⟩], 26), (P14, #[.string ⟨#[]⟩, .string ⟨#[]⟩], 26)] (w8.alloc (.cells #[.string ⟨#[]⟩, .string ⟨#[]⟩] 26)) from by
                        have h := H1'.out
                        rw [hf1] at h
                        exact h.new w8.heap.size rfl #[.string ⟨#[]⟩, .string ⟨#[]⟩] 26)
                      have k0 := H2.out.c 1 0 rfl rfl; have k1 := H2.out.c 1 1 rfl rfl
                      have HSU4 := Lib.hid (HSU3.out hp1 hp2)
                      clear hp1 hp2 hf1 hf2 HSU3 H1' HF1 HF2
                      obtain ⟨a0, a1, a2, a3, a4, a5, a6, a7, a8, a9, a10⟩ := z11 (HK6.out.here H2.out.bl) (i := 2) rfl
                      go_wp2_with fail
                      refine (HM3.out _ (HX.out _ _ H2.out)).mono ?_
                      rintro e w9 ⟨A3, c3, Ag3, cg3, As3, cs3, rfl, oL3, oG3, oS3, hb9⟩
                      clear a0 a1 a2 a3 a4 a5 a6 a7 a8 a9 a10 k0 k1 HM3
                      have H3 := Lib.hid ((H2.out.here hb9).new w9.heap.size rfl #[.slice A3 (mapL ls d).1.lots.length c3, .slice Ag3 (mapL ls d).1.gains.length cg3, .slice As3 (mapL ls d).1.steps.length cs3, .slice none 0 0] 35)
                      have HL3 := Lib.hid (oL3.alloc (.cells #[.slice A3 (mapL ls d).1.lots.length c3, .slice Ag3 (mapL ls d).1.gains.length cg3, .slice As3 (mapL ls d).1.steps.length cs3, .slice none 0 0] 35))
                      clear oL3 oG3 oS3 hb9 H2
                      rcases HSU4.out with h5 | ⟨h5, hq, hc⟩
                      · rw [h5]
                        clear h5 HSU4
                        go_wp2_with fail
                        refine (HAW.out _ (HX.out _ _ H3.out)).mono ?_
                        rintro e wz ⟨rfl, hbz⟩
                        go_wp2_with fail
                        first | go_ret | skip
                        exact ⟨rfl, HX.out _ _ (H3.out.here hbz)⟩
                      · rw [h5]
                        unfold TotPost S at HTO2 HTO3
                        rw [← hq, ← hc] at HTO3
                        clear h5 HSU4 hq hc
                        generalize txtL (totL (mapL (mapL ls a).1.lots b).1.lots b.other (fun z => val z.q)) = tq at *
                        generalize txtL (totL (mapL (mapL ls a).1.lots b).1.lots b.other (fun z => val z.c)) = tc at *
                        have HB := Lib.hid (show ∀ X bs, Kp W6 bs X → X.cell? ⟨w.heap.size + 1, 3, none⟩ = some (.string ⟨b.other.toArray⟩) ∧ X.cell? ⟨w6.heap.size, 0, none⟩ = some (.slice A2 (mapL (mapL ls a).1.lots b).1.lots.length c2) from fun X bs h => ⟨(HK6.out.here h.bl).c 3 3 rfl rfl, (HK6.out.here h.bl).c 0 0 rfl rfl⟩)
                        obtain ⟨b0, b1⟩ := HB.out _ _ H3.out
                        go_wp2_with fail
                        refine (HTO2.out _ _ _ H3.out.pw ((HL2.out.sl L7_len).here H3.out.bl)).mono ?_
                        rintro e w10 ⟨rfl, hb10⟩
                        have H4 := Lib.hid (H3.out.here hb10)
                        have HL4 := Lib.hid ((HL3.out.sl L7_len).here hb10)
                        clear hb10 b0 b1 H3 HL3
                        obtain ⟨b0, b1⟩ := HB.out _ _ H4.out
                        have b2 := H4.out.c 0 0 rfl rfl
                        go_wp2_with fail
                        refine (HTO3.out _ _ _ H4.out.pw HL4.out).mono ?_
                        rintro e w11 ⟨rfl, hb11⟩
                        have H5 := Lib.hid (H4.out.here hb11)
                        clear hb11 b0 b1 b2 H4 HL4
                        go_wp2_with fail
                        refine (HAW.out _ (HX.out _ _ H5.out)).mono ?_
                        rintro e wz ⟨rfl, hbz⟩
                        go_wp2_with fail
                        first | go_ret | skip
                        exact ⟨rfl, HX.out _ _ (H5.out.here hbz)⟩
                    · have H2 := Lib.hid (H1'.out.new w8.heap.size rfl #[.string ⟨f2.n.toArray⟩, .string ⟨f2.d.toArray⟩] 26)
                      have k0 := H2.out.c 1 0 rfl rfl; have k1 := H2.out.c 1 1 rfl rfl
                      rw [hf1] at k0 k1
                      clear hp1 hf1 HSU3
                      go_wp2_with fail
                      refine (HAW.out _ (HX.out _ _ H2.out)).mono ?_
                      rintro e wz ⟨rfl, hbz⟩
                      go_wp2_with fail
                      first | go_ret | skip
                      exact ⟨rfl, HX.out _ _ (H2.out.here hbz)⟩
                  · have H2 := Lib.hid (H1'.out.new w8.heap.size rfl #[.string ⟨f2.n.toArray⟩, .string ⟨f2.d.toArray⟩] 26)
                    have k0 := H2.out.c 1 0 rfl rfl; have k1 := H2.out.c 1 1 rfl rfl
                    clear HSU3
                    go_wp2_with fail
                    refine (HAW.out _ (HX.out _ _ H2.out)).mono ?_
                    rintro e wz ⟨rfl, hbz⟩
                    go_wp2_with fail
                    first | go_ret | skip
                    exact ⟨rfl, HX.out _ _ (H2.out.here hbz)⟩
              · have he3 : ((mapL (mapL ls a).1.lots b).2 != 0) = true := by simpa using he2
                clear he2
                go_wp2_with fail
                refine (HAW.out _ HK6.out.bl).mono ?_
                rintro e wz ⟨rfl, hbz⟩
                go_wp2_with fail
                first | go_ret | skip
                exact ⟨rfl, (HK6.out.here hbz).bl⟩
            · have he3 : ((mapL ls a).2 != 0) = true := by simpa using he1
              clear he1
              go_wp2_with fail
              refine (HAW.out _ HK5.out.bl).mono ?_
              rintro e wz ⟨rfl, hbz⟩
              go_wp2_with fail
              first | go_ret | skip
              exact ⟨rfl, (HK5.out.here hbz).bl⟩
        · have hbad := thenL_bad hth
          have hne : ((thenL a b).2 != 0) = true := by simpa using hth
          have hne2 : ((thenL a b).2 == 0) = false := by simpa using hth
          rw [hbad]
          generalize (thenL a b).2 = er at *
          clear hbad hth
          unfold Mp.none Fr.zero
          have HK3 := Lib.hid ((HK2.out.here hb3).new w3.heap.size rfl #[.string ⟨#[]⟩, .int .i64 0, .string ⟨#[]⟩, .string ⟨#[]⟩, .string ⟨#[]⟩, .string ⟨#[]⟩, .string ⟨#[]⟩, .string ⟨#[]⟩, .string ⟨#[]⟩, .string ⟨#[]⟩, .bool false] 28)
          clear hb3
          go_wp2_with fail
          refine (HAW.out _ HK3.out.bl).mono ?_
          rintro e wz ⟨rfl, hbz⟩
          go_wp2_with fail
          first | go_ret | skip
          exact ⟨rfl, (HK3.out.here hbz).bl⟩
end Go.Proofs.YtndndphfblijpaaGreatDoor
