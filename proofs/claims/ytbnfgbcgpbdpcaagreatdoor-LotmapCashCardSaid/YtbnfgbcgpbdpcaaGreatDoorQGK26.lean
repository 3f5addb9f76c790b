/- Merged texts: Eq7, AwP, Awk, Pt. -/
import Derived.Test.YtbnfgbcgpbdpcaaGreatDoorQGK14
import Derived.Deep.RegionHeld3
import Derived.Deep.DrawnRows
import Derived.Test.YtbnfgbcgpbdpcaaGreatDoorQGK20
import Derived.Test.YtbnfgbcgpbdpcaaGreatDoorNuqGK
import Derived.Test.YtbnfgbcgpbdpcaaGreatDoorQGK12
import Derived.Deep.DeepCutAuto
/- Contract of slices.Equal over lots, at equal lists. -/
namespace Go.Proofs.YtbnfgbcgpbdpcaaGreatDoor
open Go.RowKit Go.Shelf
attribute [local go_sem ↓] Go.wp_at_zero Go.wp_at_succ

set_option maxRecDepth 100000 in
set_option maxHeartbeats 4000000 in
theorem eqLots_same (A A' : Option Addr) (n c c' : Nat) (xs : List Lot) (w : World) (h1 : Lots w w.heap.size A n xs) (h2 : Lots w w.heap.size A' n xs) (hn : n ≤ 1000000) :
    Calls Tryz.prog 28 #[.slice A n c, .slice A' n c'] w fun e w' => e = .returned (.bool true) ∧ Below w.heap.size w w' := by
  have H1 := Lib.hid h1; have H2 := Lib.hid h2
  clear h1 h2
  have hne : ((n : Int) != (n : Int)) = false := by simp
  go_enter Tryz.func28, Tryz.ntmps28
  go_wp2_with fail
  go_loopw [5, 13] (fun _ j wr => ∃ k : Nat, k ≤ n ∧ j = .int .i64 k ∧ Hid (Below w.heap.size w wr)) (fun _ j _ => n - (intOf j).toNat)
  case atStart => exact ⟨0, Nat.zero_le _, rfl, Below.refl _ _⟩
  case round =>
    obtain ⟨k, hk, rfl, HB⟩ := hrel
    by_cases hlt : k < n
    · obtain ⟨b, off, y, rfl, hb, hy, d0, d1, d2, d3, d4, d5, d6⟩ := (H1.out.here HB.out).lot7 hlt
      obtain ⟨b2, off2, z, rfl, hb2, hz, e0, e1, e2, e3, e4, e5, e6⟩ := (H2.out.here HB.out).lot7 hlt
      have hyz : z = y := by rw [hy] at hz; injection hz with hz; exact hz.symm
      subst hyz
      clear hy hz hb hb2
      have i1 : (0 : Int) ≤ (k : Int) := by omega
      have i2 : (k : Int) < (n : Int) := by omega
      go_upto_region 6 with (fail)
      go_region_held3 (fun X => X.cell? ⟨b, off + k * 7, none⟩ = some (.string ⟨z.id.toArray⟩) ∧ X.cell? ⟨b, off + k * 7 + 1, none⟩ = some (.string ⟨z.inst.toArray⟩) ∧ X.cell? ⟨b, off + k * 7 + 2, none⟩ = some (.int .i64 z.acq) ∧ X.cell? ⟨b, off + k * 7 + 3, none⟩ = some (.int .i64 z.opn) ∧ X.cell? ⟨b, off + k * 7 + 4, none⟩ = some (.string ⟨z.q.toArray⟩) ∧ X.cell? ⟨b, off + k * 7 + 5, none⟩ = some (.string ⟨z.c.toArray⟩) ∧ X.cell? ⟨b, off + k * 7 + 6, none⟩ = some (.string ⟨z.u.toArray⟩) ∧ X.cell? ⟨b2, off2 + k * 7, none⟩ = some (.string ⟨z.id.toArray⟩) ∧ X.cell? ⟨b2, off2 + k * 7 + 1, none⟩ = some (.string ⟨z.inst.toArray⟩) ∧ X.cell? ⟨b2, off2 + k * 7 + 2, none⟩ = some (.int .i64 z.acq) ∧ X.cell? ⟨b2, off2 + k * 7 + 3, none⟩ = some (.int .i64 z.opn) ∧ X.cell? ⟨b2, off2 + k * 7 + 4, none⟩ = some (.string ⟨z.q.toArray⟩) ∧ X.cell? ⟨b2, off2 + k * 7 + 5, none⟩ = some (.string ⟨z.c.toArray⟩) ∧ X.cell? ⟨b2, off2 + k * 7 + 6, none⟩ = some (.string ⟨z.u.toArray⟩)) (go_keep) (fail)
      all_goals
        go_wp2_with fail
        exact ⟨⟨k + 1, by omega, by simp, HB.out.drew⟩, by simp [intOf]; omega⟩
    · obtain rfl : k = n := by omega
      go_wp2_with fail
      first | go_ret | skip
      exact ⟨rfl, HB.out⟩
end Go.Proofs.YtbnfgbcgpbdpcaaGreatDoor
/- The chapter's example of a mapping, plain. -/
namespace Go.Proofs.YtbnfgbcgpbdpcaaGreatDoor
open Go.RowKit Go.Shelf

theorem txt_of' {n : Nat} {l : List UInt8} (h1 : l.all isDig = true) (h2 : ∀ b t, l = b :: t → (b == 48) = false) (h3 : valD l = n) : txtL (n : Int) = l := by
  rw [txtL_nat, ← h3, digs_valD h1 h2]
theorem hd_ok' {b : UInt8} {t : List UInt8} (h : (b == 48) = false) : ∀ c u, b :: t = c :: u → (c == 48) = false := fun c u e => by injection e with e1 _; rw [← e1]; exact h
def l0 : List Lot := [⟨[97, 47, 49], [97, 98, 99], 1, 2, [49, 48], [49, 48, 48], []⟩, ⟨[98, 47, 49], [97, 98, 99], 3, 3, [53], [56, 48], []⟩]
def m0 : Mp := ⟨[120], 9, [97, 98, 99], [100, 101, 102], ⟨[49], [50]⟩, ⟨[49], []⟩, ⟨[57], []⟩, false⟩
def P0 : Plan := { exact := 15 / 2, parts := 7, part := 1 / 2, moved := 180, taken := 12, cash := 4, n := [5, 2], m := [100, 80], f := [7, 5], p := [3, 1] }
def r0 : List Lot := [⟨[120, 47, 49], [100, 101, 102], 1, 2, [53], [57, 51], [53]⟩, ⟨[120, 47, 50], [100, 101, 102], 3, 3, [50], [55, 53], [50]⟩]
def g0 : List Gain := [⟨[120], [97, 47, 49], [100, 101, 102], 1, 9, [], [51], [55], [], []⟩, ⟨[120], [98, 47, 49], [100, 101, 102], 3, 9, [], [49], [53], [], []⟩]
theorem t1 : txtL 1 = [49] := txt_of' (n := 1) (by decide) (hd_ok' (by decide)) (by decide)
theorem t2 : txtL 2 = [50] := txt_of' (n := 2) (by decide) (hd_ok' (by decide)) (by decide)
theorem t3 : txtL 3 = [51] := txt_of' (n := 3) (by decide) (hd_ok' (by decide)) (by decide)
theorem t5 : txtL 5 = [53] := txt_of' (n := 5) (by decide) (hd_ok' (by decide)) (by decide)
theorem t7 : txtL 7 = [55] := txt_of' (n := 7) (by decide) (hd_ok' (by decide)) (by decide)
theorem t9 : txtL 9 = [57] := txt_of' (n := 9) (by decide) (hd_ok' (by decide)) (by decide)
theorem t10 : txtL 10 = [49, 48] := txt_of' (n := 10) (by decide) (hd_ok' (by decide)) (by decide)
theorem t75 : txtL 75 = [55, 53] := txt_of' (n := 75) (by decide) (hd_ok' (by decide)) (by decide)
theorem t80 : txtL 80 = [56, 48] := txt_of' (n := 80) (by decide) (hd_ok' (by decide)) (by decide)
theorem t93 : txtL 93 = [57, 51] := txt_of' (n := 93) (by decide) (hd_ok' (by decide)) (by decide)
theorem t100 : txtL 100 = [49, 48, 48] := txt_of' (n := 100) (by decide) (hd_ok' (by decide)) (by decide)
theorem d1_ : digs 1 = [49] := by rw [← t1]; exact (txtL_nat 1).symm
theorem d2_ : digs 2 = [50] := by rw [← t2]; exact (txtL_nat 2).symm
theorem up2 {t a b : Int} (h : befB (restL t [a, b]) 0 1 = true) : upL t [a, b] = [0, 1].take (missL t [a, b]).toNat := by
  unfold upL ordL
  rw [show (restL t [a, b]).length = 2 from rfl, show List.range 2 = [0, 1] from rfl, List.mergeSort_of_pairwise (by simpa using h)]
theorem p1 : posL 7 [10, 5] = [5, 2] := by unfold posL; rw [up2 (by decide)]; decide
theorem p2 : posL 180 [100, 80] = [100, 80] := by unfold posL; rw [up2 (by decide)]; decide
theorem p3 : posL 12 [100, 80] = [7, 5] := by unfold posL; rw [up2 (by decide)]; decide
theorem p4 : posL 4 [10, 5] = [3, 1] := by unfold posL; rw [up2 (by decide)]; decide
theorem aw_plan : planL l0 m0 = P0 := by
  have hr : m0.ratio.rat = 1 / 2 := by decide +kernel
  have hs : m0.share.rat = 1 := by decide +kernel
  have hp : m0.price.rat = 9 := by decide +kernel
  have hq : l0.map (fun x => val x.q) = [10, 5] := by decide
  have hc : l0.map (fun x => val x.c) = [100, 80] := by decide
  unfold planL
  simp only [hr, hs, hp, hq, hc]
  have h1 : (((([10, 5] : List Int).sum : Int)) : Rat) * (1 / 2) = 15 / 2 := by decide +kernel
  have h2 : rnd (1 * ((([100, 80] : List Int).sum : Int) : Rat)) = 180 := by decide +kernel
  have h3 : flo (15 / 2 : Rat) = 7 := by decide +kernel
  have h4 : (15 / 2 : Rat) - (((7 : Int)) : Rat) = 1 / 2 := by decide +kernel
  have h5 : rnd ((1 / 2 : Rat) * 9) = 4 := by decide +kernel
  have h6 : (if (1 / 2 : Rat) = 0 then (0 : Int) else if (7 : Int) = 0 then 180 else shrL 180 (flr (15 / 2 : Rat)) (15 / 2 : Rat).num) = 12 := by decide +kernel
  simp only [h1, h2, h3, h4, h5, h6]
  unfold P0 divS
  rw [if_neg (by decide), if_neg (by decide), if_neg (by decide), p1, p2, p3, p4]
  rfl
theorem aw_valid : LotsOk l0 ∧ m0.Ok := by
  refine ⟨⟨by decide, ?_, by decide⟩, ?_⟩
  · intro y hy
    unfold l0 at hy
    simp only [List.mem_cons, List.mem_nil_iff, or_false] at hy
    rcases hy with rfl | rfl
    · exact ⟨by decide, by decide, by decide, by decide, by decide, by unfold canB; rw [show val [49, 48] = 10 by decide, t10]; decide, by unfold canB; rw [show val [49, 48, 48] = 100 by decide, t100]; decide, by decide, by decide, .inl rfl⟩
    · exact ⟨by decide, by decide, by decide, by decide, by decide, by unfold canB; rw [show val [53] = 5 by decide, t5]; decide, by unfold canB; rw [show val [56, 48] = 80 by decide, t80]; decide, by decide, by decide, .inl rfl⟩
  · have hr : m0.ratio.rat = 1 / 2 := by decide +kernel
    have hs : m0.share.rat = 1 := by decide +kernel
    have hp : m0.price.rat = 9 := by decide +kernel
    refine ⟨by decide, by decide, by decide, by decide, ?_, ?_, ?_, ?_, ?_, ?_, ?_, by decide, fun _ => hs⟩
    · unfold Fr.ok
      rw [hr]
      unfold frOf
      rw [show (1 / 2 : Rat).num = 1 by decide +kernel, show (1 / 2 : Rat).den = 2 by decide +kernel, if_neg (by decide), t1, show ((2 : Nat) : Int) = 2 from rfl, t2]
      rfl
    · unfold Fr.ok
      rw [hs]
      unfold frOf
      rw [show (1 : Rat).num = 1 by decide +kernel, show (1 : Rat).den = 1 by decide +kernel, if_pos rfl, t1]
      rfl
    · unfold Fr.ok
      rw [hp]
      unfold frOf
      rw [show (9 : Rat).num = 9 by decide +kernel, show (9 : Rat).den = 1 by decide +kernel, if_pos rfl, t9]
      rfl
    · rw [hr]; decide +kernel
    · rw [hs]; decide +kernel
    · rw [hs]; decide +kernel
    · rw [hp]; decide +kernel
theorem aw_made : madeL m0 P0 l0 = r0 := by
  have e : madeL m0 P0 l0 = [newL m0 P0 2 0 l0[0], newL m0 P0 2 1 l0[1]] := rfl
  rw [e]
  unfold newL newId
  rw [show cntN P0.n 0 = 0 by decide, show cntN P0.n 1 = 1 by decide, show P0.n.getD 0 0 = 5 from rfl, show P0.n.getD 1 0 = 2 from rfl, show P0.mv 0 = 93 by decide, show P0.mv 1 = 75 by decide, show P0.rest 2 = 0 by decide]
  simp only [Nat.zero_add, Nat.reduceAdd, Int.add_zero, if_true, if_false, Nat.one_ne_zero, d1_, d2_, t5, t2, t93, t75]
  rfl
theorem aw_map : mapL l0 m0 = (⟨r0, g0, stpL m0 P0 l0⟩, 0) := by
  obtain ⟨hl, hm⟩ := aw_valid
  have ho : lotsOf l0 m0.inst = l0 := by decide
  unfold mapL
  rw [if_neg (show ¬ (allC l0 ≠ 0 ∨ mpC m0 ≠ 0) from fun h => h.elim (fun h => h ((allC_ok _).2 hl)) (fun h => h ((mpC_ok _).2 hm)))]
  simp only [ho, aw_plan, aw_made]
  rw [if_neg (by decide), if_neg (by decide)]
  have hk : keptL m0 P0.m 0 l0 = [] := by decide
  have hg : gainL m0 P0 l0 = g0 := by
    unfold gainL
    rw [if_neg (show ¬ P0.part = 0 by decide +kernel)]
    have e : gainTo m0 P0 l0 l0.length = [⟨[120], [97, 47, 49], [100, 101, 102], 1, 9, [], txtL 3, txtL 7, [], []⟩, ⟨[120], [98, 47, 49], [100, 101, 102], 3, 9, [], txtL 1, txtL 5, [], []⟩] := rfl
    rw [e, t3, t7, t1, t5]
    rfl
  have hno : LotsOk ([] : List Lot) := ⟨by decide, fun _ h => (by cases h), by decide⟩
  have hr : ∀ z ∈ r0, z.Ok := by
    intro z hz
    unfold r0 at hz
    simp only [List.mem_cons, List.mem_nil_iff, or_false] at hz
    rcases hz with rfl | rfl
    · exact ⟨by decide, by decide, by decide, by decide, by decide, by unfold canB; rw [show val [53] = 5 by decide, t5]; decide, by unfold canB; rw [show val [57, 51] = 93 by decide, t93]; decide, by decide, by decide, .inr rfl⟩
    · exact ⟨by decide, by decide, by decide, by decide, by decide, by unfold canB; rw [show val [50] = 2 by decide, t2]; decide, by unfold canB; rw [show val [55, 53] = 75 by decide, t75]; decide, by decide, by decide, .inr rfl⟩
  rw [hk, hg]
  have h := openAll_eq [100, 101, 102] r0 [] [] ⟨fun _ h => (by cases h), .inl rfl⟩ hno (fun z hz => ⟨hr z hz, by unfold r0 at hz; simp only [List.mem_cons, List.mem_nil_iff, or_false] at hz; rcases hz with rfl | rfl <;> rfl, by simp⟩) (by decide)
  simp only [List.nil_append, List.append_nil] at h
  rw [if_pos (.inr (by decide))] at h
  rw [h]
end Go.Proofs.YtbnfgbcgpbdpcaaGreatDoor
/- Contract of the statements' awake. -/
namespace Go.Proofs.YtbnfgbcgpbdpcaaGreatDoor
open Go.RowKit Go.Shelf

theorem m0_sz : m0.Sz 5000 := ⟨by decide, by decide, by decide, ⟨by decide, by decide⟩, ⟨by decide, by decide⟩, ⟨by decide, by decide⟩, by decide, by decide⟩
theorem l0_sz : ∀ y ∈ l0, y.Sz 50000 := by
  intro y hy
  unfold l0 at hy
  simp only [List.mem_cons, List.mem_nil_iff, or_false] at hy
  rcases hy with rfl | rfl <;> exact ⟨by decide, by decide, by decide, by decide, by decide, by decide, by decide, by decide, by decide⟩
theorem MpV_m0 : MpV m0 = .agg #[.string ⟨#[120]⟩, .int .i64 9, .string ⟨#[97, 98, 99]⟩, .string ⟨#[100, 101, 102]⟩, .string ⟨#[49]⟩, .string ⟨#[50]⟩, .string ⟨#[49]⟩, .string ⟨#[]⟩, .string ⟨#[57]⟩, .string ⟨#[]⟩, .bool false] := rfl
set_option maxRecDepth 100000 in
set_option maxHeartbeats 4000000 in
theorem lwAwake_any (w : World) (hp : Env w) : Calls Tryz.prog 8 #[] w fun e w' => e = .returned (.bool true) ∧ Below w.heap.size w w' := by
  have hls : Lots (w.alloc (.cells #[.string ⟨#[97, 47, 49]⟩, .string ⟨#[97, 98, 99]⟩, .int .i64 1, .int .i64 2, .string ⟨#[49, 48]⟩, .string ⟨#[49, 48, 48]⟩, .string ⟨#[]⟩, .string ⟨#[98, 47, 49]⟩, .string ⟨#[97, 98, 99]⟩, .int .i64 3, .int .i64 3, .string ⟨#[53]⟩, .string ⟨#[56, 48]⟩, .string ⟨#[]⟩] 39)) (w.alloc (.cells #[.string ⟨#[97, 47, 49]⟩, .string ⟨#[97, 98, 99]⟩, .int .i64 1, .int .i64 2, .string ⟨#[49, 48]⟩, .string ⟨#[49, 48, 48]⟩, .string ⟨#[]⟩, .string ⟨#[98, 47, 49]⟩, .string ⟨#[97, 98, 99]⟩, .int .i64 3, .int .i64 3, .string ⟨#[53]⟩, .string ⟨#[56, 48]⟩, .string ⟨#[]⟩] 39)).heap.size (some ⟨w.heap.size, 0, none⟩) 2 l0 :=
    (Sl.lit (enc := L7) (k := 7) w #[.string ⟨#[97, 47, 49]⟩, .string ⟨#[97, 98, 99]⟩, .int .i64 1, .int .i64 2, .string ⟨#[49, 48]⟩, .string ⟨#[49, 48, 48]⟩, .string ⟨#[]⟩, .string ⟨#[98, 47, 49]⟩, .string ⟨#[97, 98, 99]⟩, .int .i64 3, .int .i64 3, .string ⟨#[53]⟩, .string ⟨#[56, 48]⟩, .string ⟨#[]⟩] 39 l0 rfl L7_len).more (by simp)
  have hbA : Below w.heap.size w (w.alloc (.cells #[.string ⟨#[97, 47, 49]⟩, .string ⟨#[97, 98, 99]⟩, .int .i64 1, .int .i64 2, .string ⟨#[49, 48]⟩, .string ⟨#[49, 48, 48]⟩, .string ⟨#[]⟩, .string ⟨#[98, 47, 49]⟩, .string ⟨#[97, 98, 99]⟩, .int .i64 3, .int .i64 3, .string ⟨#[53]⟩, .string ⟨#[56, 48]⟩, .string ⟨#[]⟩] 39)) := (Below.refl _ _).alloc (Nat.le_refl _) _
  have HMP := Lib.hid (map_any (some ⟨w.heap.size, 0, none⟩) 2 2 l0 m0 (w.alloc (.cells #[.string ⟨#[97, 47, 49]⟩, .string ⟨#[97, 98, 99]⟩, .int .i64 1, .int .i64 2, .string ⟨#[49, 48]⟩, .string ⟨#[49, 48, 48]⟩, .string ⟨#[]⟩, .string ⟨#[98, 47, 49]⟩, .string ⟨#[97, 98, 99]⟩, .int .i64 3, .int .i64 3, .string ⟨#[53]⟩, .string ⟨#[56, 48]⟩, .string ⟨#[]⟩] 39)) 10 (hp.here hbA) hls (.inr ⟨_, rfl⟩) (by decide) l0_sz (.inl m0_sz) (by decide) (by decide) (by decide) (by decide) ⟨by decide, by decide⟩ ⟨by decide, by decide⟩ ⟨by decide, by decide⟩)
  rw [aw_map, MpV_m0] at HMP
  have HB := Lib.hid hbA
  have HP := Lib.hid hp
  clear hls hbA hp
  go_enter Tryz.func8, Tryz.ntmps8
  go_wp2_with fail
  generalize w.alloc (.cells #[.string ⟨#[97, 47, 49]⟩, .string ⟨#[97, 98, 99]⟩, .int .i64 1, .int .i64 2, .string ⟨#[49, 48]⟩, .string ⟨#[49, 48, 48]⟩, .string ⟨#[]⟩, .string ⟨#[98, 47, 49]⟩, .string ⟨#[97, 98, 99]⟩, .int .i64 3, .int .i64 3, .string ⟨#[53]⟩, .string ⟨#[56, 48]⟩, .string ⟨#[]⟩] 39) = W0 at *
  refine HMP.out.mono ?_
  rintro e w1 ⟨A1, c1, Ag, cg, As, cs, rfl, oL, oG, oS, hb1⟩
  have HL1 := Lib.hid oL
  have hg0 : g0.length = 2 := rfl
  have hr0 : r0.length = 2 := rfl
  obtain ⟨gb, go, x, hA, _, hx, x0, x1, x2, x3, x4, x5, x6, x7, x8, x9⟩ := (oG.sl G10_len).gain (i := 0) (by decide)
  obtain ⟨gb', go', y, hA', _, hy, y0, y1, y2, y3, y4, y5, y6, y7, y8, y9⟩ := (oG.sl G10_len).gain (i := 1) (by decide)
  have ex : x = ⟨[120], [97, 47, 49], [100, 101, 102], 1, 9, [], [51], [55], [], []⟩ := by
    have h : g0[0]? = some ⟨[120], [97, 47, 49], [100, 101, 102], 1, 9, [], [51], [55], [], []⟩ := rfl
    exact Option.some.inj (hx.symm.trans h)
  have ey : y = ⟨[120], [98, 47, 49], [100, 101, 102], 3, 9, [], [49], [53], [], []⟩ := by
    have h : g0[1]? = some ⟨[120], [98, 47, 49], [100, 101, 102], 3, 9, [], [49], [53], [], []⟩ := rfl
    exact Option.some.inj (hy.symm.trans h)
  have hab : gb' = gb ∧ go' = go := by
    rw [hA] at hA'
    injection hA' with h
    injection h with h1 h2
    exact ⟨h1.symm, h2.symm⟩
  obtain ⟨rfl, rfl⟩ := hab
  subst ex; subst ey; subst hA
  have hgl : gb' < w1.heap.size := World.block_lt_of_cell? _ _ x6
  have HGX := Lib.hid (show ∀ X, Below w1.heap.size w1 X → X.cell? ⟨gb', go' + 6, none⟩ = some (.string ⟨#[51]⟩) ∧ X.cell? ⟨gb', go' + 7, none⟩ = some (.string ⟨#[55]⟩) ∧ X.cell? ⟨gb', go' + 10 + 6, none⟩ = some (.string ⟨#[49]⟩) ∧ X.cell? ⟨gb', go' + 10 + 7, none⟩ = some (.string ⟨#[53]⟩) from fun X hX =>
    ⟨(hX.cell (p := ⟨gb', go' + 6, none⟩) hgl).trans x6, (hX.cell (p := ⟨gb', go' + 7, none⟩) hgl).trans x7, (hX.cell (p := ⟨gb', go' + 10 + 6, none⟩) hgl).trans y6, (hX.cell (p := ⟨gb', go' + 10 + 7, none⟩) hgl).trans y7⟩)
  clear x0 x1 x2 x3 x4 x5 x6 x7 x8 x9 y0 y1 y2 y3 y4 y5 y6 y7 y8 y9 hx hy hA' hgl
  dsimp only
  rw [hr0, hg0]
  have hb2 : Below w1.heap.size w1 (((w1.alloc (.cells #[.slice A1 2 c1, .slice (some ⟨gb', go', none⟩) 2 cg, .slice As (stpL m0 P0 l0).length cs, .slice none 0 0] 35)).alloc (.cells #[.string ⟨#[120, 47, 49]⟩, .string ⟨#[100, 101, 102]⟩, .int .i64 1, .int .i64 2, .string ⟨#[53]⟩, .string ⟨#[57, 51]⟩, .string ⟨#[53]⟩, .string ⟨#[120, 47, 50]⟩, .string ⟨#[100, 101, 102]⟩, .int .i64 3, .int .i64 3, .string ⟨#[50]⟩, .string ⟨#[55, 53]⟩, .string ⟨#[50]⟩] 39))) := ((Below.refl _ _).alloc (Nat.le_refl _) _).alloc (by simp) _
  have hrs : Lots (((w1.alloc (.cells #[.slice A1 2 c1, .slice (some ⟨gb', go', none⟩) 2 cg, .slice As (stpL m0 P0 l0).length cs, .slice none 0 0] 35)).alloc (.cells #[.string ⟨#[120, 47, 49]⟩, .string ⟨#[100, 101, 102]⟩, .int .i64 1, .int .i64 2, .string ⟨#[53]⟩, .string ⟨#[57, 51]⟩, .string ⟨#[53]⟩, .string ⟨#[120, 47, 50]⟩, .string ⟨#[100, 101, 102]⟩, .int .i64 3, .int .i64 3, .string ⟨#[50]⟩, .string ⟨#[55, 53]⟩, .string ⟨#[50]⟩] 39))) (((w1.alloc (.cells #[.slice A1 2 c1, .slice (some ⟨gb', go', none⟩) 2 cg, .slice As (stpL m0 P0 l0).length cs, .slice none 0 0] 35)).alloc (.cells #[.string ⟨#[120, 47, 49]⟩, .string ⟨#[100, 101, 102]⟩, .int .i64 1, .int .i64 2, .string ⟨#[53]⟩, .string ⟨#[57, 51]⟩, .string ⟨#[53]⟩, .string ⟨#[120, 47, 50]⟩, .string ⟨#[100, 101, 102]⟩, .int .i64 3, .int .i64 3, .string ⟨#[50]⟩, .string ⟨#[55, 53]⟩, .string ⟨#[50]⟩] 39))).heap.size (some ⟨w1.heap.size + 1, 0, none⟩) 2 r0 := by
    have h := (Sl.lit (enc := L7) (k := 7) (w1.alloc (.cells #[.slice A1 2 c1, .slice (some ⟨gb', go', none⟩) 2 cg, .slice As (stpL m0 P0 l0).length cs, .slice none 0 0] 35)) #[.string ⟨#[120, 47, 49]⟩, .string ⟨#[100, 101, 102]⟩, .int .i64 1, .int .i64 2, .string ⟨#[53]⟩, .string ⟨#[57, 51]⟩, .string ⟨#[53]⟩, .string ⟨#[120, 47, 50]⟩, .string ⟨#[100, 101, 102]⟩, .int .i64 3, .int .i64 3, .string ⟨#[50]⟩, .string ⟨#[55, 53]⟩, .string ⟨#[50]⟩] 39 r0 rfl L7_len).more (B' := (((w1.alloc (.cells #[.slice A1 2 c1, .slice (some ⟨gb', go', none⟩) 2 cg, .slice As (stpL m0 P0 l0).length cs, .slice none 0 0] 35)).alloc (.cells #[.string ⟨#[120, 47, 49]⟩, .string ⟨#[100, 101, 102]⟩, .int .i64 1, .int .i64 2, .string ⟨#[53]⟩, .string ⟨#[57, 51]⟩, .string ⟨#[53]⟩, .string ⟨#[120, 47, 50]⟩, .string ⟨#[100, 101, 102]⟩, .int .i64 3, .int .i64 3, .string ⟨#[50]⟩, .string ⟨#[55, 53]⟩, .string ⟨#[50]⟩] 39))).heap.size) (by simp)
    rw [show (w1.alloc (.cells #[.slice A1 2 c1, .slice (some ⟨gb', go', none⟩) 2 cg, .slice As (stpL m0 P0 l0).length cs, .slice none 0 0] 35)).heap.size = w1.heap.size + 1 by simp] at h
    exact h
  have hEQ := Lib.hid (eqLots_same A1 (some ⟨w1.heap.size + 1, 0, none⟩) 2 c1 2 r0 (((w1.alloc (.cells #[.slice A1 2 c1, .slice (some ⟨gb', go', none⟩) 2 cg, .slice As (stpL m0 P0 l0).length cs, .slice none 0 0] 35)).alloc (.cells #[.string ⟨#[120, 47, 49]⟩, .string ⟨#[100, 101, 102]⟩, .int .i64 1, .int .i64 2, .string ⟨#[53]⟩, .string ⟨#[57, 51]⟩, .string ⟨#[53]⟩, .string ⟨#[120, 47, 50]⟩, .string ⟨#[100, 101, 102]⟩, .int .i64 3, .int .i64 3, .string ⟨#[50]⟩, .string ⟨#[55, 53]⟩, .string ⟨#[50]⟩] 39))) (((HL1.out.below hb2).sl L7_len)) hrs (by decide))
  have HRB := Lib.hid (show BlkB (((w1.alloc (.cells #[.slice A1 2 c1, .slice (some ⟨gb', go', none⟩) 2 cg, .slice As (stpL m0 P0 l0).length cs, .slice none 0 0] 35)).alloc (.cells #[.string ⟨#[120, 47, 49]⟩, .string ⟨#[100, 101, 102]⟩, .int .i64 1, .int .i64 2, .string ⟨#[53]⟩, .string ⟨#[57, 51]⟩, .string ⟨#[53]⟩, .string ⟨#[120, 47, 50]⟩, .string ⟨#[100, 101, 102]⟩, .int .i64 3, .int .i64 3, .string ⟨#[50]⟩, .string ⟨#[55, 53]⟩, .string ⟨#[50]⟩] 39))) w1.heap.size #[.slice A1 2 c1, .slice (some ⟨gb', go', none⟩) 2 cg, .slice As (stpL m0 P0 l0).length cs, .slice none 0 0] 35 from BlkB.alloc (heap_alloc_new w1 _) _)
  have HB2 := Lib.hid hb2
  clear hb2 hrs oL oG oS
  go_wp2_with fail
  refine hEQ.out.mono ?_
  rintro e w3 ⟨rfl, hb3⟩
  obtain ⟨k0, k1, k2, k3⟩ := HGX.out w3 (HB2.out.trans (hb3.mono HB2.out.size))
  have HR3 := Lib.hid (HRB.out.here hb3)
  have r0_ := HR3.out.cell 0 rfl; have r1_ := HR3.out.cell 1 rfl
  have HBW := Lib.hid (HB.out.trans ((hb1.trans (HB2.out.trans (hb3.mono HB2.out.size) |>.mono hb1.size)).mono HB.out.size))
  clear hb3 hb1
  go_wp2_with fail
  first | go_ret | skip
  exact ⟨rfl, HBW.out⟩
end Go.Proofs.YtbnfgbcgpbdpcaaGreatDoor
/- Contract of lotmap.Parts, at a quantity and a ratio that are valid. -/
namespace Go.Proofs.YtbnfgbcgpbdpcaaGreatDoor
open Go.RowKit Go.Shelf
attribute [local go_sem ↓] Go.wp_at_zero Go.wp_at_succ

def PartsPost (q : Rat) (w : World) (e : Ending) (w' : World) : Prop := e = .returned (.tuple #[S (txtL (flo q)), FrV (frOf (q - ((flo q : Int) : Rat))), .int .i64 0]) ∧ Below w.heap.size w w'
set_option maxRecDepth 20000 in
set_option maxHeartbeats 4000000 in
theorem parts_ok (q : List UInt8) (f : Fr) (w : World) (hp : Env w) (hq : q = txtL (val q)) (hql : q.length ≤ 200) (hf : f.ok) (hfz : f.Sz 200) (h0 : 0 ≤ val q) (h1 : 0 < f.rat) :
    Calls Tryz.prog 14 #[S q, FrV f] w (PartsPost (((val q : Int) : Rat) * f.rat) w) := by
  have HPO := Lib.hid (show PartsPost (((val q : Int) : Rat) * f.rat) w = fun e w' => e = .returned (.tuple #[S (txtL (flo (((val q : Int) : Rat) * f.rat))), FrV (frOf (((val q : Int) : Rat) * f.rat - ((flo (((val q : Int) : Rat) * f.rat) : Int) : Rat))), .int .i64 0]) ∧ Below w.heap.size w w' from rfl)
  generalize PartsPost (((val q : Int) : Rat) * f.rat) w = post at *
  have HIC := Lib.hid (iCheck_any q (by omega))
  rw [if_pos hq] at HIC
  have HFC := Lib.hid (fun W hW => fCheck_any f W hW (hfz.more (by omega)))
  rw [show chkF f = 0 from if_pos hf] at HFC
  have HCM := Lib.hid (fun W => Compare_any q [] W (by omega) (by simp))
  rw [val_nil, Int.sub_zero] at HCM
  have hs0 : decide (sgnI (val q) < 0) = false := by
    unfold sgnI
    rw [if_neg (by omega)]
    split <;> decide
  have HSG := Lib.hid (mSign_any f (hfz.more (by omega)))
  have hs1 : decide (cmpR f.rat 0 ≤ 0) = false := by
    unfold cmpR
    rw [if_neg (Rat.not_lt.2 (Rat.le_of_lt h1)), if_pos h1]
    decide
  have hqv := val_lt' hql
  have HOF := Lib.hid (fun W hW => fOf_any q W hW (by omega))
  have hz1 : (frOf ((val q : Int) : Rat)).Sz 201 := by rw [frOf_int]; exact ⟨txtL_length hqv, by simp⟩
  have HMU := Lib.hid (fun W hW => fMul_any (frOf ((val q : Int) : Rat)) f W hW (hz1.more (by omega)) (hfz.more (by omega)))
  rw [rat_frOf] at HMU
  have hz2 : (frOf (((val q : Int) : Rat) * f.rat)).Sz 1000 := by
    have := frOf_sz (rb_mul (hz1.more (show 201 ≤ 201 by omega)) (hfz.more (show 200 ≤ 201 by omega)) (by omega))
    rw [rat_frOf] at this
    exact this.more (by omega)
  have HWH := Lib.hid (mWhole_any (frOf (((val q : Int) : Rat) * f.rat)) (hz2.more (by omega)))
  rw [rat_frOf] at HWH
  have H := Lib.hid (show Kp w [(w.heap.size + 1, #[.string ⟨#[]⟩, .string ⟨#[]⟩], 26), (w.heap.size, #[.string ⟨f.n.toArray⟩, .string ⟨f.d.toArray⟩], 26)] ((w.alloc (.cells #[.string ⟨f.n.toArray⟩, .string ⟨f.d.toArray⟩] 26)).alloc (.cells #[.string ⟨#[]⟩, .string ⟨#[]⟩] 26)) from ((Kp.start hp).new w.heap.size rfl _ _).new (w.heap.size + 1) (by simp) _ _)
  generalize cmpR f.rat 0 = z1 at *
  generalize sgnI (val q) = z0 at *
  generalize frOf (((val q : Int) : Rat) * f.rat - ((flo (((val q : Int) : Rat) * f.rat) : Int) : Rat)) = pt at *
  generalize txtL (flo (((val q : Int) : Rat) * f.rat)) = tn at *
  generalize frOf (((val q : Int) : Rat) * f.rat) = fm at *
  generalize frOf ((val q : Int) : Rat) = fq at *
  have hs0i : ¬ z0 < 0 := by simpa using hs0
  have hs1i : ¬ z1 ≤ 0 := by simpa using hs1
  clear hp hq hql hf hfz h0 h1 hqv hz1 hz2
  unfold FrV S at *
  go_enter Tryz.func14, Tryz.ntmps14
  go_wp2_with fail
  generalize ((w.alloc (.cells #[.string ⟨f.n.toArray⟩, .string ⟨f.d.toArray⟩] 26)).alloc (.cells #[.string ⟨#[]⟩, .string ⟨#[]⟩] 26)) = W0 at *
  refine (HIC.out _ H.out.pw).mono ?_
  rintro e w1 ⟨rfl, hb1⟩
  have H1 := Lib.hid (H.out.here hb1)
  clear hb1 H
  have x0 := H1.out.c 1 0 rfl rfl; have x1 := H1.out.c 1 1 rfl rfl
  go_wp2_with fail
  refine (HFC.out _ H1.out.po).mono ?_
  rintro e w2 ⟨rfl, hb2⟩
  have H2 := Lib.hid (H1.out.here hb2)
  clear hb2 H1 x0 x1
  go_wp2_with fail
  refine (HCM.out _).mono ?_
  rintro e w3 ⟨rfl, hb3⟩
  have H3 := Lib.hid (H2.out.here hb3)
  clear hb3 H2
  have x0 := H3.out.c 1 0 rfl rfl; have x1 := H3.out.c 1 1 rfl rfl
  go_wp2_with fail
  refine (HSG.out _ H3.out.pw).mono ?_
  rintro e w4 ⟨rfl, hb4⟩
  have H4 := Lib.hid (H3.out.here hb4)
  clear hb4 H3 x0 x1
  go_upto_region 5 with (fail)
  have HRT := Lib.hid (show ∀ X bs i, Kp w bs X → bs[i]? = some (w.heap.size, #[.string ⟨f.n.toArray⟩, .string ⟨f.d.toArray⟩], 26) → X.cell? ⟨w.heap.size, 0, none⟩ = some (.string ⟨f.n.toArray⟩) ∧ X.cell? ⟨w.heap.size, 1, none⟩ = some (.string ⟨f.d.toArray⟩) from fun X bs i h hb => ⟨h.c i 0 hb rfl, h.c i 1 hb rfl⟩)
  have HPA := Lib.hid ((H4.out.new w4.heap.size rfl #[.string ⟨#[]⟩, .string ⟨#[]⟩] 26).drew)
  go_cut [7, 8] (fun s p wc => s = .string ⟨tn.toArray⟩ ∧ ∃ P8, p = .pointer (some ⟨P8, 0, none⟩) ∧ Hid (Kp w ((P8, #[.string ⟨pt.n.toArray⟩, .string ⟨pt.d.toArray⟩], 26) :: [(w.heap.size + 1, #[.string ⟨#[]⟩, .string ⟨#[]⟩], 26), (w.heap.size, #[.string ⟨f.n.toArray⟩, .string ⟨f.d.toArray⟩], 26)]) wc))
  case first =>
    obtain ⟨s00, s01⟩ := HRT.out _ _ 1 H4.out rfl
    have s0a := HRT.out _ _ 2 HPA.out rfl
    go_region_held3 (fun X => X.cell? ⟨w.heap.size, 0, none⟩ = some (.string ⟨f.n.toArray⟩) ∧ X.cell? ⟨w.heap.size, 1, none⟩ = some (.string ⟨f.d.toArray⟩))
      (first
        | with_reducible exact s4
        | with_reducible exact s3a
        | with_reducible exact s3
        | with_reducible exact s2a
        | with_reducible exact s2
        | with_reducible exact s1a
        | with_reducible exact s1
        | with_reducible exact s0a
        | go_keep)
      (first
        | (go_at_call 44; first
            | (refine (HOF.out _ H4.out.drew.po).mono ?_; rintro e y1 ⟨rfl, hy⟩; try unfold FrV S
               have g1 := H4.out.drew.here hy
               have s1 := HRT.out _ _ 1 g1 rfl
               have g1a := g1.new y1.heap.size rfl #[.string ⟨#[]⟩, .string ⟨#[]⟩] 26
               have s1a := HRT.out _ _ 2 g1a rfl)
            | (refine (HOF.out _ HPA.out.po).mono ?_; rintro e y1 ⟨rfl, hy⟩; try unfold FrV S
               have g1 := HPA.out.here hy
               have s1 := HRT.out _ _ 2 g1 rfl))
        | (go_at_call 21; first
            | (refine (HMU.out _ g1.po).mono ?_; rintro e y2 ⟨rfl, hy⟩; try unfold FrV S
               have g2 := g1.here hy)
            | (refine (HMU.out _ g1a.po).mono ?_; rintro e y2 ⟨rfl, hy⟩; try unfold FrV S
               have g2 := g1a.here hy)
           first
            | (have s2 := HRT.out _ _ 1 g2 rfl
               have g2a := g2.new y2.heap.size rfl #[.string ⟨#[]⟩, .string ⟨#[]⟩] 26
               have s2a := HRT.out _ _ 2 g2a rfl)
            | (have s2 := HRT.out _ _ 2 g2 rfl))
        | (go_at_call 43; first
            | (refine (HWH.out _ g2.pw).mono ?_; rintro e y3 ⟨rfl, hy⟩; try unfold FrV S
               have g3 := g2.here hy)
            | (refine (HWH.out _ g2a.pw).mono ?_; rintro e y3 ⟨rfl, hy⟩; try unfold FrV S
               have g3 := g2a.here hy)
           first
            | (have s3 := HRT.out _ _ 1 g3 rfl
               have g3a := g3.new y3.heap.size rfl #[.string ⟨#[]⟩, .string ⟨#[]⟩] 26
               have s3a := HRT.out _ _ 2 g3a rfl
               have g4 := (g3a.set 0 0 rfl (.string ⟨pt.n.toArray⟩)).set 0 1 rfl (.string ⟨pt.d.toArray⟩)
               have s4 := HRT.out _ _ 2 g4 rfl)
            | (have s3 := HRT.out _ _ 2 g3 rfl
               have n0 := g3.c 0 0 rfl rfl; have n1 := g3.c 0 1 rfl rfl
               have f0 := g3.f 0 0 rfl; have f1 := g3.f 0 1 rfl
               have g4 := (g3.set 0 0 rfl (.string ⟨pt.n.toArray⟩)).set 0 1 rfl (.string ⟨pt.d.toArray⟩)
               have s4 := HRT.out _ _ 2 g4 rfl)))
    all_goals
      go_wp2_with fail
      go_meet
      first
        | exact ⟨rfl, _, rfl, g4⟩
        | exact ⟨rfl, _, rfl, g3.new _ rfl _ _⟩
  case rest =>
  obtain ⟨rfl, P8, rfl, H5⟩ := hcut
  clear H4 HPA HRT
  have k0 := H5.out.c 0 0 rfl rfl; have k1 := H5.out.c 0 1 rfl rfl
  have n0 := H5.out.c 1 0 rfl rfl; have n1 := H5.out.c 1 1 rfl rfl
  have f0 := H5.out.f 1 0 rfl; have f1 := H5.out.f 1 1 rfl
  have HE := Lib.hid (((H5.out.set 1 0 rfl (.string ⟨pt.n.toArray⟩)).set 1 1 rfl (.string ⟨pt.d.toArray⟩)).drew)
  obtain ⟨r0, r1⟩ : _ ∧ _ := ⟨HE.out.c 0 0 rfl rfl, HE.out.c 0 1 rfl rfl⟩
  have m0 := HE.out.c 1 0 rfl rfl; have m1 := HE.out.c 1 1 rfl rfl
  go_upto_region 6 with (fail)
  go_region_held3 (fun X => X.cell? ⟨P8, 0, none⟩ = some (.string ⟨pt.n.toArray⟩) ∧ X.cell? ⟨P8, 1, none⟩ = some (.string ⟨pt.d.toArray⟩))
    (first
      | with_reducible exact ⟨r0, r1⟩
      | go_keep)
    (fail)
  all_goals
    go_wp2_with fail
    refine bodyPost_ret (v := .tuple #[.string ⟨tn.toArray⟩, .agg #[.string ⟨pt.n.toArray⟩, .string ⟨pt.d.toArray⟩], .int .i64 0]) (by simp [results, Tryz.results14, go_sem, m0, m1]) rfl ?_
    rw [HPO.out]
    exact ⟨rfl, HE.out.bl⟩
end Go.Proofs.YtbnfgbcgpbdpcaaGreatDoor
