/- The program's combine: plain form, and the walk up to its loop over bands. -/
import Derived.Test.YtiefdlfninhbgaaGreatDoorP7a
namespace Go.Proofs.YtiefdlfninhbgaaGreatDoor
open Go.RowKit Go.Shelf
attribute [local go_sem] Oper.semAt_some

set_option maxRecDepth 100000 in
set_option maxHeartbeats 4000000 in
theorem combine_any (g : Nat) (cond : Bool → Bool → Bool) (hc : Cond g cond) (Aa Ab : Option Addr) (na nb ca cb : Nat) (xs ys : List Reg) (w : World)
    (ha : Rgs w w.heap.size Aa na xs) (hb : Rgs w w.heap.size Ab nb ys) (hna : na ≤ 1000) (hnb : nb ≤ 1000) :
    Calls Tryz.prog 57 #[.slice Aa na ca, .slice Ab nb cb, .func (.func g) #[] #[]] w (RetOwn Reg.vals 4 35 w.heap.size w (combL cond xs ys)) := by
  have HA := Lib.hid ha; have HB := Lib.hid hb; have HC := Lib.hid hc; clear ha hb hc
  refine (callsIn_wide (n := 5)).1 ?_
  refine callsIn_of_wp_marks Tryz.func57 rfl trivial ?_ rfl
  simp only [Tryz.ntmps57, List.size_toArray, List.length_cons, List.length_nil, Nat.reduceAdd, Nat.reduceSub, Array.replicate_succ, Array.replicate_zero, List.push_toArray, List.append_toArray, List.nil_append, List.cons_append]
  gi_wp2_with fail
  refine ⟨trivial, ?_⟩
  have bA0 : Box ((((w.alloc (.cells #[.slice Aa na ca] 22)).alloc (.cells #[.slice Ab nb cb] 22)).alloc (.cells #[.func (.func g) #[] #[]] 55)).alloc (.cells #[.slice Aa na ca, .slice Ab nb cb] 22)) w.heap.size 22 (.slice Aa na ca) := (((Box.new w _ _).alloc _).alloc _).alloc _
  have bB0 : Box ((((w.alloc (.cells #[.slice Aa na ca] 22)).alloc (.cells #[.slice Ab nb cb] 22)).alloc (.cells #[.func (.func g) #[] #[]] 55)).alloc (.cells #[.slice Aa na ca, .slice Ab nb cb] 22)) (w.heap.size + 1) 22 (.slice Ab nb cb) := by
    have := ((Box.new (w.alloc (.cells #[.slice Aa na ca] 22)) 22 (.slice Ab nb cb)).alloc (.cells #[.func (.func g) #[] #[]] 55)).alloc (.cells #[.slice Aa na ca, .slice Ab nb cb] 22)
    simpa using this
  have bC0 : Box ((((w.alloc (.cells #[.slice Aa na ca] 22)).alloc (.cells #[.slice Ab nb cb] 22)).alloc (.cells #[.func (.func g) #[] #[]] 55)).alloc (.cells #[.slice Aa na ca, .slice Ab nb cb] 22)) (w.heap.size + 1 + 1) 55 (.func (.func g) #[] #[]) := by
    have := (Box.new ((w.alloc (.cells #[.slice Aa na ca] 22)).alloc (.cells #[.slice Ab nb cb] 22)) 55 (.func (.func g) #[] #[])).alloc (.cells #[.slice Aa na ca, .slice Ab nb cb] 22)
    simpa using this
  have hsl : Sl SlV.vals 1 ((((w.alloc (.cells #[.slice Aa na ca] 22)).alloc (.cells #[.slice Ab nb cb] 22)).alloc (.cells #[.func (.func g) #[] #[]] 55)).alloc (.cells #[.slice Aa na ca, .slice Ab nb cb] 22)) (w.heap.size + 4) (some ⟨w.heap.size + 1 + 1 + 1, 0, none⟩) 2 [⟨Aa, na, ca⟩, ⟨Ab, nb, cb⟩] := by
    have := Sl.lit (enc := SlV.vals) (k := 1) (((w.alloc (.cells #[.slice Aa na ca] 22)).alloc (.cells #[.slice Ab nb cb] 22)).alloc (.cells #[.func (.func g) #[] #[]] 55)) #[.slice Aa na ca, .slice Ab nb cb] 22 [⟨Aa, na, ca⟩, ⟨Ab, nb, cb⟩] rfl SlV.vals_len
    simpa using this
  have hb0 : Below w.heap.size w ((((w.alloc (.cells #[.slice Aa na ca] 22)).alloc (.cells #[.slice Ab nb cb] 22)).alloc (.cells #[.func (.func g) #[] #[]] 55)).alloc (.cells #[.slice Aa na ca, .slice Ab nb cb] 22)) := ((((Below.refl _ _).alloc (Nat.le_refl _) _).alloc (by simp) _).alloc (by simp; omega) _).alloc (by simp; omega) _
  have hsz0 : ((((w.alloc (.cells #[.slice Aa na ca] 22)).alloc (.cells #[.slice Ab nb cb] 22)).alloc (.cells #[.func (.func g) #[] #[]] 55)).alloc (.cells #[.slice Aa na ca, .slice Ab nb cb] 22)).heap.size = w.heap.size + 4 := by simp
  generalize ((((w.alloc (.cells #[.slice Aa na ca] 22)).alloc (.cells #[.slice Ab nb cb] 22)).alloc (.cells #[.func (.func g) #[] #[]] 55)).alloc (.cells #[.slice Aa na ca, .slice Ab nb cb] 22)) = W0 at *
  refine (callsIn_wide.2 (concat_any _ 2 2 [⟨Aa, na, ca⟩, ⟨Ab, nb, cb⟩] [xs, ys] W0 (by rw [hsz0]; exact hsl) ⟨rfl, fun i r zs hr hz => ?_⟩ (by omega) (fun zs hz => ?_))).mono ?_
  · match i, hr, hz with
    | 0, hr, hz => simp at hr hz; subst hr; subst hz; exact (HA.out.below hb0).more hb0.size
    | 1, hr, hz => simp at hr hz; subst hr; subst hz; exact (HB.out.below hb0).more hb0.size
    | i + 2, hr, hz => simp at hr
  · simp at hz
    rcases hz with rfl | rfl
    · have := HA.out.1; omega
    · have := HB.out.1; omega
  have hall : [xs, ys].flatten = xs ++ ys := by simp
  rw [hall]
  rintro e w1 ⟨A1, c1, rfl, ho1, hb1⟩
  have hal : (xs ++ ys).length ≤ 2000 := by rw [List.length_append]; have := HA.out.1; have := HB.out.1; omega
  have HCL := Lib.hid (show combL cond xs ys = (combSt (nowL cond xs ys (distL (numsOf (xs ++ ys)))) (pairs (distL (daysOf (xs ++ ys))))).out from rfl)
  have HBN := Lib.hid (fun (W : World) (h : Rgs W W.heap.size A1 (xs ++ ys).length (xs ++ ys)) => bands_any A1 (xs ++ ys).length c1 (xs ++ ys) W h (by omega))
  generalize hxy : xs ++ ys = all at *
  clear hxy hall hsl
  have bA1 := bA0.here hb1; have bB1 := bB0.here hb1; have bC1 := bC0.here hb1
  have hB1 : Below w.heap.size w w1 := hb0.trans (hb1.mono hb0.size)
  have hz1 : w.heap.size + 4 ≤ w1.heap.size := by rw [← hsz0]; exact hb1.size
  have hO1 : Own Reg.vals 4 35 w1 w.heap.size (.slice A1 all.length c1) all := ho1.base_ (by omega)
  have hS1 := hO1.sl Reg.vals_len
  clear hb0 hsz0 hb1 ho1 bA0 bB0 bC0
  have HBA := Lib.hid bA1; have HBB := Lib.hid bB1; have HBC := Lib.hid bC1; have HO1 := Lib.hid hO1; have HS1 := Lib.hid hS1
  clear bA1 bB1 bC1 hO1 hS1
  have HNL := Lib.hid (numsOf_len all)
  gi_wp2_with fail
  gi_loopw [10, 27] (fun _ i wr => ∃ (j : Nat) (A' : Option Addr) (c' m : Nat), j ≤ all.length ∧ i = .int .i64 j ∧ m ≤ 2 * j ∧ Box wr w1.heap.size 69 (.slice A' m c') ∧ Own I1 1 3 wr w1.heap.size (.slice A' m c') (numsOf (all.take j)) ∧ Below w1.heap.size w1 wr) (fun _ i _ => all.length - (intOf i).toNat)
  case atStart => exact ⟨0, none, 0, 0, Nat.zero_le _, rfl, Nat.zero_le _, Box.new w1 _ _, Own.nil, (Below.refl _ _).alloc (Nat.le_refl _) _⟩
  case round =>
    obtain ⟨j, A', c', m, hj, rfl, hm, hbx, ho, hb⟩ := hrel
    by_cases hlt : j < all.length
    · obtain ⟨b, off, r, rfl, hbl, hxj, d0, d1, d2, d3⟩ := (HS1.out.below hb).reg hlt
      have HST := Lib.hid (numsOf_step hxj)
      generalize numsOf (all.take j) = l at *
      obtain ⟨rfl, _, _, hAo⟩ := ho.facts
      have HAo := Lib.hid hAo; have HO := Lib.hid ho; have HBX := Lib.hid hbx; clear hAo ho hbx hxj
      have hbc := HBX.out.cell
      have hlt3 : w1.heap.size < wr.heap.size := HBX.out.lt
      have hne : w1.heap.size ≠ wr.heap.size := by omega
      gi_wp2_with (gi_at_builtin; refine wpListIn_app _ rfl (.tmp 31) (.tmp 36) _ rfl elemInts I1_len I1_one (base := w1.heap.size) (.slice A' l.length c') l rfl ((HO.out.alloc _).alloc _) _ _ 2 2 [r.si, r.un] rfl (by have := Sl.lit (enc := I1) (k := 1) (wr.alloc (.cells #[.int .i64 r.fr, .int .i64 r.to, .int .i64 r.si, .int .i64 r.un] 35)) #[.int .i64 r.si, .int .i64 r.un] 3 [r.si, r.un] rfl I1_len; simp only [World.size_alloc] at this; exact this) (by omega) (by have := hb.size; simp; omega) ?_; intro A4 c4 w4 ho4 hg4 hat4; have hbx4 := (((HBX.out.alloc _).alloc _).grown hg4 (HO.out.neBox HBX.out (by decide))); have hc4 := hbx4.cell; have hf4 := hbx4.frozen)
      go_roundw
      case rel =>
        refine ⟨j + 1, A4, c4, l.length + 2, by omega, by go_num, by omega, hbx4.set_ _, ?_, ?_⟩
        · rw [HST.out]
          exact ho4.far (fun h => ho4.neBox hbx4 (by decide) h.symm) _
        · refine (below_grown ((hb.alloc hb.size _).alloc (by have := hb.size; simp; omega) _) hg4 (by have := hb.size; simp; omega) (fun g' e => ?_)).setCell (p := ⟨w1.heap.size, 0, none⟩) (Nat.le_refl _) _
          rcases HAo.out with ⟨rfl, _⟩ | ⟨g, rfl, hg1, hg2⟩
          · simp [Value.ownBlock] at e
          · simp [Value.ownBlock] at e; omega
      case measure => simp [intOf]; omega
    · rw [List.take_of_length_le (by omega)] at ho
      have hnl2 : (numsOf all).length ≤ 4000 := by rw [HNL.out]; omega
      generalize numsOf all = l at *
      obtain ⟨rfl, _, _, hAo⟩ := ho.facts
      have HAo := Lib.hid hAo; have HO := Lib.hid ho; have HBX := Lib.hid hbx; clear hAo ho hbx
      have hbc := HBX.out.cell
      have HD := Lib.hid (distinctI_any w1.heap.size A' c' l wr HO.out (by omega))
      gi_wp2_with (refine ⟨trivial, ?_⟩; gi_at_call 76; refine (callsIn_wide.2 HD.out).mono ?_; rintro e w2 ⟨A2, c2, rfl, ho2, hg2⟩; have hbx2 := HBX.out.grown hg2 (HO.out.neBox HBX.out (by decide)); have hc2 := hbx2.cell; have hf2 := hbx2.frozen)
      refine ⟨trivial, ?_⟩
      have hB2 : Below w1.heap.size w1 w2 := below_grown hb hg2 hb.size (fun g' e => by
        rcases HAo.out with ⟨rfl, _⟩ | ⟨g, rfl, hg1, hg2⟩
        · simp [Value.ownBlock] at e
        · simp [Value.ownBlock] at e; omega)
      have hB2' := hB2.setCell (p := ⟨w1.heap.size, 0, none⟩) (Nat.le_refl _) (.slice A2 (distL l).length c2)
      have hz2 : w1.heap.size < w2.heap.size := hbx2.lt
      have oT2 : Own I1 1 3 (w2.setCell ⟨w1.heap.size, 0, none⟩ (.slice A2 (distL l).length c2)) w1.heap.size (.slice A2 (distL l).length c2) (distL l) := ho2.far (fun h => ho2.neBox hbx2 (by decide) h.symm) _
      have bT2 := hbx2.set_ (.slice A2 (distL l).length c2)
      have lT2 : ∀ g, (Value.slice A2 (distL l).length c2).ownBlock = some g → g < w2.heap.size := fun g e => (World.ownsRow.lt ho2 g e).2
      have bA2 := HBA.out.below hB2' (by omega)
      have bB2 := HBB.out.below hB2' (by omega)
      have bC2 := HBC.out.below hB2' (by omega)
      have hS2 := HS1.out.below hB2'
      have hsz2 : (w2.setCell ⟨w1.heap.size, 0, none⟩ (.slice A2 (distL l).length c2)).heap.size = w2.heap.size := by simp
      clear hbx2 hc2 hf2 ho2 hg2 hB2 HBX HO HD HAo hbc
      generalize w2.setCell ⟨w1.heap.size, 0, none⟩ (.slice A2 (distL l).length c2) = w2' at *
      have hgr : w2'.grownBy ((((w2'.alloc (.cells #[.slice none 0 0] 22)).alloc (.cells #[.slice none 0 0] 101)).alloc (.cells #[.int .i64 0] 3)).alloc (.cells #[.int .i64 0] 23)) none :=
        ⟨rfl, rfl, rfl, by simp; omega, fun i hi _ => (Below.heap_alloc _ _ i (by simp; omega)).trans ((Below.heap_alloc _ _ i (by simp; omega)).trans ((Below.heap_alloc _ _ i (by simp; omega)).trans (Below.heap_alloc _ _ i hi)))⟩
      have bO3 : Box ((((w2'.alloc (.cells #[.slice none 0 0] 22)).alloc (.cells #[.slice none 0 0] 101)).alloc (.cells #[.int .i64 0] 3)).alloc (.cells #[.int .i64 0] 23)) w2.heap.size 22 (.slice none 0 0) := by
        have := (((Box.new w2' 22 (.slice none 0 0)).alloc (.cells #[.slice none 0 0] 101)).alloc (.cells #[.int .i64 0] 3)).alloc (.cells #[.int .i64 0] 23)
        rw [hsz2] at this; exact this
      have bS3 : Box ((((w2'.alloc (.cells #[.slice none 0 0] 22)).alloc (.cells #[.slice none 0 0] 101)).alloc (.cells #[.int .i64 0] 3)).alloc (.cells #[.int .i64 0] 23)) (w2.heap.size + 1) 101 (.slice none 0 0) := by
        have := ((Box.new (w2'.alloc (.cells #[.slice none 0 0] 22)) 101 (.slice none 0 0)).alloc (.cells #[.int .i64 0] 3)).alloc (.cells #[.int .i64 0] 23)
        simp only [World.size_alloc, hsz2] at this; exact this
      have bF3 : Box ((((w2'.alloc (.cells #[.slice none 0 0] 22)).alloc (.cells #[.slice none 0 0] 101)).alloc (.cells #[.int .i64 0] 3)).alloc (.cells #[.int .i64 0] 23)) (w2.heap.size + 2) 3 (.int .i64 0) := by
        have := (Box.new ((w2'.alloc (.cells #[.slice none 0 0] 22)).alloc (.cells #[.slice none 0 0] 101)) 3 (.int .i64 0)).alloc (.cells #[.int .i64 0] 23)
        simp only [World.size_alloc, hsz2] at this; exact this
      have bE3 : Box ((((w2'.alloc (.cells #[.slice none 0 0] 22)).alloc (.cells #[.slice none 0 0] 101)).alloc (.cells #[.int .i64 0] 3)).alloc (.cells #[.int .i64 0] 23)) (w2.heap.size + 3) 23 (.int .i64 0) := by
        have := Box.new (((w2'.alloc (.cells #[.slice none 0 0] 22)).alloc (.cells #[.slice none 0 0] 101)).alloc (.cells #[.int .i64 0] 3)) 23 (.int .i64 0)
        simp only [World.size_alloc, hsz2] at this; exact this
      have hsz3 : ((((w2'.alloc (.cells #[.slice none 0 0] 22)).alloc (.cells #[.slice none 0 0] 101)).alloc (.cells #[.int .i64 0] 3)).alloc (.cells #[.int .i64 0] 23)).heap.size = w2.heap.size + 4 := by simp [hsz2]
      generalize ((((w2'.alloc (.cells #[.slice none 0 0] 22)).alloc (.cells #[.slice none 0 0] 101)).alloc (.cells #[.int .i64 0] 3)).alloc (.cells #[.int .i64 0] 23)) = W3 at *
      have bA3 := bA2.grown hgr (by simp); have bB3 := bB2.grown hgr (by simp); have bC3 := bC2.grown hgr (by simp); have bT3 := bT2.grown hgr (by simp)
      have oT3 := oT2.grown hgr ((Classical.em _).imp id id)
      have bl3 : Below w.heap.size w W3 := below_grown_none (hB1.trans (hB2'.mono hB1.size)) hgr (by have := hB1.size; omega)
      have hS3 : Rgs W3 W3.heap.size A1 all.length all := (hS2.grown hgr (by omega) (fun _ e => by cases e)).more (by omega)
      clear bA2 bB2 bC2 bT2 oT2 hgr hB2' hS2
      refine (callsIn_wide.2 (HBN.out W3 hS3)).mono ?_
      rintro e w3 ⟨Bd, Ad, cd, rfl, hBd, bD, oD, hb3⟩
      obtain ⟨KK, hKK⟩ : ∃ KK : CK, KK = ⟨w.heap.size, w1.heap.size, w2.heap.size, Bd, .slice Aa na ca, .slice Ab nb cb, .func (.func g) #[] #[], .slice A2 (distL l).length c2, .slice Ad (distL (daysOf all)).length cd, distL l, distL (daysOf all), w⟩ := ⟨_, rfl⟩
      have hCI : CIx KK ⟨[], [], 0, 0⟩ none 0 none 0 w3 := by
        subst hKK
        exact ⟨bA3.here hb3, bB3.here hb3, bC3.here hb3, bT3.here hb3, oT3.below hb3, lT2, bO3.here hb3, Own.nil, bS3.here hb3, Own.nil, bF3.here hb3, bE3.here hb3, bD, oD.base_ (by simp; omega), by simp; omega, by simp; omega, by simp; omega, bl3.trans (hb3.mono (by have := bl3.size; omega)), Nat.le_refl _⟩
      clear bA3 bB3 bC3 bT3 oT3 bO3 bS3 bF3 bE3 hb3 hS3 bl3 HBA HBB HBC HO1 HS1 HBN hB1
      have hdl : (distL (daysOf all)).length ≤ 4000 := Nat.le_trans (distL_len _) (by rw [daysOf_len]; omega)
      have hnl3 : (distL l).length ≤ 4000 := Nat.le_trans (distL_len _) hnl2
      have hz3 : w2.heap.size + 4 < w3.heap.size := by have := hCI.bD.lt; have := hCI.lD; subst hKK; simp at *; omega
      have HND := Lib.hid (show ∀ d, (nowL cond xs ys (distL l) d).length ≤ 4000 from fun d => Nat.le_trans (spansL_len _ _) hnl3)
      have HNW := Lib.hid (show ∀ d, spansL (distL l) (fun n => cond (hasL xs d n) (hasL ys d n)) = nowL cond xs ys (distL l) d from fun _ => rfl)
      generalize hnow : nowL cond xs ys (distL l) = now at *
      clear hnow
      gi_wp2_with fail
      refine wpIn_rangeFunc_ownH (F := Fence.wide) (n := 5) rfl (by omega) (gf := 98) (lb := #[.pointer (some ⟨Bd, 0, none⟩)]) rfl trivial (enters_of Tryz.func98 (by kernel_rfl) rfl)
        (bands1_stops 4 (by omega) Bd (w2.heap.size + 4) Ad cd (distL (daysOf all)) (by omega) w3 (by have := hCI.bD; rw [hKK] at this; exact this) (by have := hCI.oD; rw [hKK] at this; exact this))
        (fun h h' => h.trans h') ?hKb (Below.refl _ _) (fun _ => rfl)
        (fun pre W => ∃ Ao co Ab cb, CIx KK (combSt now pre) Ao co Ab cb W) (fun _ _ _ => False)
        (fun pre W W' row ⟨Ao, co, Ab, cb, h⟩ hg hr => ⟨Ao, co, Ab, cb, h.frame hg (fun r e => ⟨by have := (hr r e).1; rw [hKK]; simp; omega, (hr r e).2⟩)⟩)
        (fun _ _ _ _ _ h _ _ => h) ⟨none, 0, none, 0, hCI⟩
        (fun x a' W => ∃ Bx, w2.heap.size + 4 ≤ Bx ∧ Box W Bx 23 (.int .i64 x.1) ∧ a' = { tmps := #[.slice Aa na ca, .slice Ab nb cb, .func (.func g) #[] #[], .pointer (some ⟨w.heap.size, 0, none⟩), .pointer (some ⟨w.heap.size + 1, 0, none⟩), .pointer (some ⟨w.heap.size + 1 + 1, 0, none⟩), .slice none 0 0, .slice A1 all.length c1, .pointer (some ⟨w1.heap.size, 0, none⟩), undef, u10, .pointer (some ⟨w2.heap.size, 0, none⟩), .pointer (some ⟨w2.heap.size + 1, 0, none⟩), .pointer (some ⟨w2.heap.size + 1 + 1, 0, none⟩), .pointer (some ⟨w2.heap.size + 1 + 1 + 1, 0, none⟩), .pointer (some ⟨Bx, 0, none⟩), .int .i64 x.2, undef, undef, undef, undef, .slice Aa na ca, .slice Ab nb cb, .slice (some ⟨w.heap.size + 1 + 1 + 1, 0, none⟩) 2 2, .slice A1 all.length c1, .slice A1 all.length c1, .int .i64 all.length, .int .i64 j, .bool false, u29, u30, u31, u32, u33, u34, u35, u36, u37, u38, (.slice A' l.length c'), .slice A2 (distL l).length c2, .slice A1 all.length c1, .func (.func 98) #[] #[.pointer (some ⟨Bd, 0, none⟩)], .int .i64 x.1, .int .i64 x.2, undef, undef, undef, undef, undef, undef, undef, undef, undef, undef, undef, undef, undef, undef, undef, undef, undef, undef, undef, undef, undef, undef, undef, undef, undef, undef, undef, undef, undef, undef, undef, undef, undef, undef, undef, undef, undef, undef, undef, undef, undef, undef, undef, undef, undef, undef, undef, undef, undef], defers := [] })
        (fun x a' _ W W' row ⟨Bx, h1, h2, h3⟩ hg hr => ⟨Bx, h1, h2.grown hg (fun e => by obtain ⟨_, o, ho, hc⟩ := hr _ e.symm; exact h2.notRow ho hc rfl), h3⟩) ?assign ?body ?done ?stop
      case hKb =>
        intro W lb o o' hlb _ _ _
        have h1 := hCI.bD.lt
        have h2 := hCI.dlt
        rw [hKK] at h1 h2
        exact ⟨World.putObj_heap_other (by simp at h1; omega), fun g' e => World.putObj_heap_other (by have := (h2 g' e).2; omega)⟩
      case assign =>
        rintro lr pre x W K ⟨Ao, co, Ab, cb, h⟩ hK
        gi_wp2
        refine hK _ _ ((KeepsOthers.alloc _ _).from _) ?_ ⟨Ao, co, Ab, cb, h.quiet (World.grownBy_alloc W _ none)⟩ ⟨W.heap.size, ?_, Box.new W _ _, rfl⟩
        · have := (h.kept_quiet w3.heap.size (World.grownBy_alloc W (.cells #[.int .i64 x.1] 23) none)).2
          rw [hKK] at this; exact this
        · have := h.bD.lt; have := h.lD; rw [hKK] at *; simp at *; omega
      case body =>
        rintro lr pre x a' W hlr ⟨rr, hrr⟩ ⟨Ao, co, Ap, cp, hci⟩ ⟨Bx, hBx, bX, rfl⟩ hlen
        have HSN := Lib.hid (combSt_snoc now pre x)
        have hfr := combSt_fr now pre
        have hol : (combSt now pre).out.length ≤ 16000000 := Nat.le_trans (combSt_len now 4000 HND.out pre) (Nat.le_trans (Nat.mul_le_mul_right 4000 (by omega : pre.length ≤ 4000)) (by omega))
        have hbl := spansBefore now pre
        have hbl2 : (combSt now pre).before.length ≤ 4000 := by
          rcases hbl with hbl | ⟨d, hbl⟩
          · rw [hbl]; simp
          · rw [hbl]; exact HND.out d
        clear hbl
        generalize combSt now pre = st at *
        have hnx := HND.out x.1
        have HNX := Lib.hid (HNW.out x.1)
        subst hKK
        have cT : W.cell? ⟨w1.heap.size, 0, none⟩ = some (.slice A2 (distL l).length c2) := hci.bT.cell
        have eg1 : ∀ args w, (callFunc 79 args).run Tryz.prog w = .ok (.enter 79 args) w := enters_of Tryz.func79 (by kernel_rfl) rfl
        have hPO : w2.heap.size + 4 < W.heap.size := by have := hci.bD.lt; have := hci.lD; simp at *; omega
        have HSP := Lib.hid (spans_any A2 (distL l).length c2 (distL l) 79 #[.pointer (some ⟨w.heap.size + 1 + 1, 0, none⟩), .pointer (some ⟨w.heap.size, 0, none⟩), .pointer (some ⟨Bx, 0, none⟩), .pointer (some ⟨w.heap.size + 1, 0, none⟩)] (fun n => cond (hasL xs x.1 n) (hasL ys x.1 n)) W eg1
          (fun W' k hb' => combine1_any g cond HC.out Aa Ab na nb ca cb xs ys x.1 k (w.heap.size + 1 + 1) w.heap.size Bx (w.heap.size + 1) W'
            ((HA.out.below (hci.bl.trans (hb'.mono (by have := hci.bl.size; exact this)))).more (by have := hci.bl.size; have := hb'.size; simp at *; omega)) ((HB.out.below (hci.bl.trans (hb'.mono (by have := hci.bl.size; exact this)))).more (by have := hci.bl.size; have := hb'.size; simp at *; omega)) (by omega) (by omega)
            (hci.bC.here hb').lt (hci.bA.here hb').lt (bX.here hb').lt (hci.bB.here hb').lt (hci.bC.here hb').cell (hci.bA.here hb').cell (bX.here hb').cell (hci.bB.here hb').cell)
          (hci.oT.sl I1_len) (by omega))
        rw [HNX.out] at HSP
        clear eg1
        have HRR := Lib.hid hrr; clear hrr
        have HX := Lib.hid bX; clear bX
        have bX := HX.out
        clear hCI
        by_cases hen : st.en = x.1
        · have henb : (st.en == x.1) = true := by simp [hen]
          have HEN := Lib.hid hen; clear hen
          by_cases heq : now x.1 = st.before
          · have HDE := Lib.hid (show decide (now x.1 = st.before) = true by simp [heq])
            have HEQ := Lib.hid heq; clear heq
            gi_wp2_with (first
          | (refine ⟨trivial, ?_⟩; gi_at_call 78; refine (CallsIn.inRound lr (callsIn_wide.2 HSP.out)).mono ?_; rintro e Wn ⟨A5, c5, rfl, ho5, hb5⟩; have cX5 := (bX.here hb5).cell; have cE5 := (hci.below hb5).bE.cell; have cS5 := (hci.below hb5).bS.cell; have cO5 := (hci.below hb5).bO.cell; have cF5 := (hci.below hb5).bF.cell; have fE5 := (hci.below hb5).bE.frozen; have fF5 := (hci.below hb5).bF.frozen)
          | (refine ⟨trivial, ?_⟩; gi_at_call 80; refine (CallsIn.inRound lr (callsIn_wide.2 (equalS_any A5 Ap (now x.1).length st.before.length c5 cp (now x.1) st.before _ (ho5.sl S2_len) ((hci.below hb5).oS.sl S2_len) (by omega) (by omega)))).mono ?_; rintro e w' ⟨rfl, q5, rfl⟩; rw [HDE.out]))
            all_goals
              have h6 := (hci.below hb5).quiet (W' := Wn.drewN q5) ⟨rfl, rfl, rfl, Nat.le_refl _, fun _ _ _ => rfl⟩
              have hk6 := hci.kept_quiet w3.heap.size (W' := Wn.drewN q5) ⟨hb5.os, hb5.tape, hb5.output, hb5.size, fun i hi _ => hb5.block i hi⟩
              clear cX5 cE5 cS5 cO5 cF5 fE5 fF5 ho5 hb5 HSP bX hci cT
              generalize Wn.drewN q5 = W6 at *
              have HSR := Lib.hid (setRange_zero st.out st.fr x.2)
              have H6 := Lib.hid h6; have HK6 := Lib.hid hk6; clear h6 hk6
              gi_loopw [18, 60] (fun _ i wr => ∃ q : Nat, q ≤ st.out.length - st.fr ∧ i = .int .i64 q ∧ CIx ⟨w.heap.size, w1.heap.size, w2.heap.size, Bd, .slice Aa na ca, .slice Ab nb cb, .func (.func g) #[] #[], .slice A2 (distL l).length c2, .slice Ad (distL (daysOf all)).length cd, distL l, distL (daysOf all), w⟩ { st with out := setRange st.out st.fr q x.2 } Ao co Ap cp wr ∧ Hid (Kept ⟨w.heap.size, w1.heap.size, w2.heap.size, Bd, .slice Aa na ca, .slice Ab nb cb, .func (.func g) #[] #[], .slice A2 (distL l).length c2, .slice Ad (distL (daysOf all)).length cd, distL l, distL (daysOf all), w⟩ w3.heap.size W wr)) (fun _ i _ => st.out.length - st.fr - (intOf i).toNat)
              case atStart => exact ⟨0, Nat.zero_le _, rfl, by rw [HSR.out]; exact H6.out, HK6.out⟩
              case round =>
                clear H6 HK6
                obtain ⟨q, hq, rfl, h7, HK7⟩ := hrel
                have hrl := setRange_len st.out st.fr q x.2
                by_cases hlt : q < st.out.length - st.fr
                · obtain ⟨r7, hr7, hst7⟩ := setRange_step st.out st.fr q x.2 hfr hlt
                  have HST7 := Lib.hid hst7; have HR7 := Lib.hid hr7; clear hst7 hr7
                  have HRL := Lib.hid hrl
                  generalize setRange st.out st.fr q x.2 = o7 at *
                  obtain ⟨_, _, _, ⟨_, _, hnil⟩ | ⟨g7, rfl, hg7, hg7'⟩⟩ := h7.oO.facts
                  · simp only at hnil; rw [hnil] at hrl; simp at hrl; omega
                  · obtain ⟨b8, off8, r8, hA8, _, hx8, e0, e1, e2, e3⟩ := (h7.oO.sl Reg.vals_len).reg (i := st.fr + q) (by simp only; omega)
                    injection hA8 with hA8
                    injection hA8 with f1 f2
                    subst f1; subst f2
                    simp only [Nat.zero_add] at e1
                    have fz := h7.oO.frozen ((st.fr + q) * 4 + 1)
                    have cO := h7.bO.cell; have cF := h7.bF.cell
                    simp only at cO cF
                    rw [HRL.out] at cO
                    clear hrl e0 e2 e3 hx8
                    have H7 := Lib.hid h7; clear h7
                    have ol : (st.fr : Int) + (q : Int) < (st.out.length : Int) := by omega
                    gi_wp2
                    go_roundw
                    case rel =>
                      have h8 := H7.out.setTo w3.heap.size (st.fr + q) x.2 HR7.out
                      exact ⟨q + 1, by omega, by go_num, by rw [HST7.out]; exact h8.1, HK7.out.trans h8.2⟩
                    case measure => simp [intOf]; omega
                · have HSA := Lib.hid (setRange_all st.out st.fr q x.2 (by omega))
                  have h8 := h7.setE w3.heap.size x.2
                  have cE := h7.bE.cell; have fE := h7.bE.frozen
                  simp only at cE fE
                  have H8 := Lib.hid h8; clear h8 h7 hrl
                  gi_wp2
                  refine ⟨(HK7.out.trans H8.out.2).1, (HK7.out.trans H8.out.2).2, Ao, co, Ap, cp, ?_⟩
                  rw [HSN.out]
                  unfold combStep
                  rw [if_pos ⟨HEN.out, HEQ.out⟩, ← HSA.out]
                  exact H8.out.1
          · have HDE := Lib.hid (show decide (now x.1 = st.before) = false by simp [heq])
            have HEQ := Lib.hid heq; clear heq
            gi_wp2_with (first
          | (refine ⟨trivial, ?_⟩; gi_at_call 78; refine (CallsIn.inRound lr (callsIn_wide.2 HSP.out)).mono ?_; rintro e Wn ⟨A5, c5, rfl, ho5, hb5⟩; have cX5 := (bX.here hb5).cell; have cE5 := (hci.below hb5).bE.cell; have cS5 := (hci.below hb5).bS.cell; have cO5 := (hci.below hb5).bO.cell; have cF5 := (hci.below hb5).bF.cell; have fE5 := (hci.below hb5).bE.frozen; have fF5 := (hci.below hb5).bF.frozen)
          | (refine ⟨trivial, ?_⟩; gi_at_call 80; refine (CallsIn.inRound lr (callsIn_wide.2 (equalS_any A5 Ap (now x.1).length st.before.length c5 cp (now x.1) st.before _ (ho5.sl S2_len) ((hci.below hb5).oS.sl S2_len) (by omega) (by omega)))).mono ?_; rintro e w' ⟨rfl, q5, rfl⟩; rw [HDE.out]))
            have h6 := (hci.below hb5).quiet (W' := Wn.drewN q5) ⟨rfl, rfl, rfl, Nat.le_refl _, fun _ _ _ => rfl⟩
            have hk6 := hci.kept_quiet w3.heap.size (W' := Wn.drewN q5) ⟨hb5.os, hb5.tape, hb5.output, hb5.size, fun i hi _ => hb5.block i hi⟩
            have ho6 : Own S2 2 109 (Wn.drewN q5) w2.heap.size (.slice A5 (now x.1).length c5) (now x.1) := ho5.base_ (by omega)
            have bX6 : Box (Wn.drewN q5) Bx 23 (.int .i64 x.1) := by have := bX.here hb5; exact this
            have h6F := h6.setF w3.heap.size st.out.length
            have ho6F : Own S2 2 109 ((Wn.drewN q5).setCell ⟨w2.heap.size + 2, 0, none⟩ (.int .i64 st.out.length)) w2.heap.size (.slice A5 (now x.1).length c5) (now x.1) := ho6.far (fun e => ho6.neBox h6.bF (by decide) e.symm) _
            have bX6F : Box ((Wn.drewN q5).setCell ⟨w2.heap.size + 2, 0, none⟩ (.int .i64 st.out.length)) Bx 23 (.int .i64 x.1) := bX6.far (by simp; omega) _
            have hk6F := hk6.trans h6F.2
            have h6G := h6F.1
            clear cX5 cE5 cS5 cO5 cF5 fE5 fF5 ho5 hb5 HSP bX hci cT h6 hk6 ho6 bX6 h6F
            generalize (Wn.drewN q5).setCell ⟨w2.heap.size + 2, 0, none⟩ (.int .i64 st.out.length) = W6 at *
            have H6 := Lib.hid h6G; have HK6 := Lib.hid hk6F; have HO6 := Lib.hid ho6F; have HX6 := Lib.hid bX6F; clear h6G hk6F ho6F bX6F
            gi_loopw [20, 76] (fun _ i wr => ∃ (q co' : Nat) (Ao' : Option Addr), q ≤ (now x.1).length ∧ i = .int .i64 q ∧ CIx ⟨w.heap.size, w1.heap.size, w2.heap.size, Bd, .slice Aa na ca, .slice Ab nb cb, .func (.func g) #[] #[], .slice A2 (distL l).length c2, .slice Ad (distL (daysOf all)).length cd, distL l, distL (daysOf all), w⟩ { out := st.out ++ (regsOf x (now x.1)).take q, before := st.before, fr := st.out.length, en := st.en } Ao' co' Ap cp wr ∧ Own S2 2 109 wr w2.heap.size (.slice A5 (now x.1).length c5) (now x.1) ∧ Box wr Bx 23 (.int .i64 x.1) ∧ Hid (Kept ⟨w.heap.size, w1.heap.size, w2.heap.size, Bd, .slice Aa na ca, .slice Ab nb cb, .func (.func g) #[] #[], .slice A2 (distL l).length c2, .slice Ad (distL (daysOf all)).length cd, distL l, distL (daysOf all), w⟩ w3.heap.size W wr)) (fun _ i _ => (now x.1).length - (intOf i).toNat)
            case atStart => exact ⟨0, co, Ao, Nat.zero_le _, rfl, by simpa using H6.out, HO6.out, HX6.out, HK6.out⟩
            case round =>
              clear H6 HK6 HO6 HX6
              obtain ⟨q, co', Ao', hq, rfl, h7, ho7, bX7, HK7⟩ := hrel
              by_cases hlt : q < (now x.1).length
              · obtain ⟨b8, off8, sp, hA8, hb8, hx8, e0, e1⟩ := (ho7.sl S2_len).span hlt
                subst hA8
                have HST := Lib.hid (regsTo_step (p := x) hx8)
                have HLT := Lib.hid (regsTo_len x (now x.1) q hq)
                generalize hout : st.out ++ (regsOf x (now x.1)).take q = o7 at *
                have ho7l : o7.length = st.out.length + q := by rw [← hout, List.length_append, HLT.out]
                have hol7 : o7.length ≤ 16004000 := by omega
                have HOUT := Lib.hid hout; clear hout
                have cO := h7.bO.cell
                have cX := bX7.cell
                simp only at cO
                have hPO7 := h7.bO.lt
                have hX7 := bX7.lt
                simp only at hPO7
                have n1 : w2.heap.size ≠ wr.heap.size := by omega
                have n2 : Bx ≠ wr.heap.size := by omega
                have n3 : w2.heap.size ≠ wr.heap.size + 1 := by omega
                have H7 := Lib.hid h7; have HO7 := Lib.hid ho7; have HX7 := Lib.hid bX7; clear h7 ho7 bX7 hx8 ho7l
                gi_wp2_with (gi_at_builtin; refine wpListIn_app _ rfl (.tmp 80) (.tmp 88) _ rfl elemRegs Reg.vals_len Reg.vals_one (base := w2.heap.size) (.slice Ao' o7.length co') o7 rfl ((H7.out.oO.alloc _).alloc _) _ _ 1 1 [⟨x.1, x.2, sp.1, sp.2⟩] rfl (by have := Sl.lit (enc := Reg.vals) (k := 4) (wr.alloc (.cells #[.int .i64 sp.1, .int .i64 sp.2] 109)) #[.int .i64 x.1, .int .i64 x.2, .int .i64 sp.1, .int .i64 sp.2] 35 [⟨x.1, x.2, sp.1, sp.2⟩] rfl Reg.vals_len; simp only [World.size_alloc] at this; exact this) (by omega) (by simp; omega) ?_; intro A9 c9 w9 ho9 hg9 hat9; have h8 := H7.out.quiet (W' := ((wr.alloc (.cells #[.int .i64 sp.1, .int .i64 sp.2] 109)).alloc (.cells #[.int .i64 x.1, .int .i64 x.2, .int .i64 sp.1, .int .i64 sp.2] 35))) (grownTwo _ _ _); have h9 := h8.app w3.heap.size hg9 ho9; have c9' := h9.1.cell; have f9' := h9.1.frozen; simp only at c9' f9')
                go_roundw
                case rel =>
                  have hX9 := ((HX7.out.alloc (.cells #[.int .i64 sp.1, .int .i64 sp.2] 109)).alloc (.cells #[.int .i64 x.1, .int .i64 x.2, .int .i64 sp.1, .int .i64 sp.2] 35)).grown hg9 (h8.oO.neBox ((HX7.out.alloc _).alloc _) (by decide))
                  have hO9 := ((HO7.out.alloc (.cells #[.int .i64 sp.1, .int .i64 sp.2] 109)).alloc (.cells #[.int .i64 x.1, .int .i64 x.2, .int .i64 sp.1, .int .i64 sp.2] 35)).grown hg9 (((HO7.out.alloc _).alloc _).ne h8.oO (by decide))
                  refine ⟨q + 1, c9, A9, by omega, by go_num, ?_, hO9.far (fun e => hO9.neBox h9.1 (by decide) e.symm) _, hX9.far (by simp; omega) _, ?_⟩
                  · have := h9.2.1
                    rw [HST.out, ← List.append_assoc, HOUT.out]
                    exact this
                  · exact HK7.out.trans ((H7.out.kept_quiet w3.heap.size (grownTwo _ _ _)).trans h9.2.2)
                case measure => simp [intOf]; omega
              · have HSA := Lib.hid (show (regsOf x (now x.1)).take q = regsOf x (now x.1) from List.take_of_length_le (by unfold regsOf; rw [List.length_map]; omega))
                rw [HSA.out] at h7
                have h8 := h7.setS w3.heap.size ho7
                have h9 := h8.1.setE w3.heap.size x.2
                have cS := h7.bS.cell; have fS := h7.bS.frozen; have cE := h8.1.bE.cell; have fE := h8.1.bE.frozen
                have hlS := h7.bS.lt; have hlE := h7.bE.lt; have cE' := h7.bE.cell; have fE' := h7.bE.frozen
                simp only at cS fS cE fE hlS hlE cE' fE'
                have H7 := Lib.hid h7; have H8 := Lib.hid h8; have H9 := Lib.hid h9; clear h7 h8 h9
                gi_wp2
                refine ⟨(HK7.out.trans (H8.out.2.trans H9.out.2)).1, (HK7.out.trans (H8.out.2.trans H9.out.2)).2, Ao', co', A5, c5, ?_⟩
                rw [HSN.out]
                unfold combStep
                rw [if_neg (fun h => HEQ.out h.2)]
                exact H9.out.1
        · have henb : (st.en == x.1) = false := by simp [hen]
          have HEN := Lib.hid hen; clear hen
          have HDE : Hid True := trivial
          gi_wp2_with (first
        | (refine ⟨trivial, ?_⟩; gi_at_call 78; refine (CallsIn.inRound lr (callsIn_wide.2 HSP.out)).mono ?_; rintro e Wn ⟨A5, c5, rfl, ho5, hb5⟩; have cX5 := (bX.here hb5).cell; have cE5 := (hci.below hb5).bE.cell; have cS5 := (hci.below hb5).bS.cell; have cO5 := (hci.below hb5).bO.cell; have cF5 := (hci.below hb5).bF.cell; have fE5 := (hci.below hb5).bE.frozen; have fF5 := (hci.below hb5).bF.frozen)
        | (refine ⟨trivial, ?_⟩; gi_at_call 80; refine (CallsIn.inRound lr (callsIn_wide.2 (equalS_any A5 Ap (now x.1).length st.before.length c5 cp (now x.1) st.before _ (ho5.sl S2_len) ((hci.below hb5).oS.sl S2_len) (by omega) (by omega)))).mono ?_; rintro e w' ⟨rfl, q5, rfl⟩; rw [HDE.out]))
          refine ⟨trivial, ?_⟩
          gi_wp2
          have h6 := (hci.below hb5).quiet (W' := Wn) ⟨rfl, rfl, rfl, Nat.le_refl _, fun _ _ _ => rfl⟩
          have hk6 := hci.kept_quiet w3.heap.size (W' := Wn) ⟨hb5.os, hb5.tape, hb5.output, hb5.size, fun i hi _ => hb5.block i hi⟩
          have ho6 : Own S2 2 109 (Wn) w2.heap.size (.slice A5 (now x.1).length c5) (now x.1) := ho5.base_ (by omega)
          have bX6 : Box (Wn) Bx 23 (.int .i64 x.1) := by have := bX.here hb5; exact this
          have h6F := h6.setF w3.heap.size st.out.length
          have ho6F : Own S2 2 109 ((Wn).setCell ⟨w2.heap.size + 2, 0, none⟩ (.int .i64 st.out.length)) w2.heap.size (.slice A5 (now x.1).length c5) (now x.1) := ho6.far (fun e => ho6.neBox h6.bF (by decide) e.symm) _
          have bX6F : Box ((Wn).setCell ⟨w2.heap.size + 2, 0, none⟩ (.int .i64 st.out.length)) Bx 23 (.int .i64 x.1) := bX6.far (by simp; omega) _
          have hk6F := hk6.trans h6F.2
          have h6G := h6F.1
          clear cX5 cE5 cS5 cO5 cF5 fE5 fF5 ho5 hb5 HSP bX hci cT h6 hk6 ho6 bX6 h6F
          generalize (Wn).setCell ⟨w2.heap.size + 2, 0, none⟩ (.int .i64 st.out.length) = W6 at *
          have H6 := Lib.hid h6G; have HK6 := Lib.hid hk6F; have HO6 := Lib.hid ho6F; have HX6 := Lib.hid bX6F; clear h6G hk6F ho6F bX6F
          gi_loopw [20, 76] (fun _ i wr => ∃ (q co' : Nat) (Ao' : Option Addr), q ≤ (now x.1).length ∧ i = .int .i64 q ∧ CIx ⟨w.heap.size, w1.heap.size, w2.heap.size, Bd, .slice Aa na ca, .slice Ab nb cb, .func (.func g) #[] #[], .slice A2 (distL l).length c2, .slice Ad (distL (daysOf all)).length cd, distL l, distL (daysOf all), w⟩ { out := st.out ++ (regsOf x (now x.1)).take q, before := st.before, fr := st.out.length, en := st.en } Ao' co' Ap cp wr ∧ Own S2 2 109 wr w2.heap.size (.slice A5 (now x.1).length c5) (now x.1) ∧ Box wr Bx 23 (.int .i64 x.1) ∧ Hid (Kept ⟨w.heap.size, w1.heap.size, w2.heap.size, Bd, .slice Aa na ca, .slice Ab nb cb, .func (.func g) #[] #[], .slice A2 (distL l).length c2, .slice Ad (distL (daysOf all)).length cd, distL l, distL (daysOf all), w⟩ w3.heap.size W wr)) (fun _ i _ => (now x.1).length - (intOf i).toNat)
          case atStart => exact ⟨0, co, Ao, Nat.zero_le _, rfl, by simpa using H6.out, HO6.out, HX6.out, HK6.out⟩
          case round =>
            clear H6 HK6 HO6 HX6
            obtain ⟨q, co', Ao', hq, rfl, h7, ho7, bX7, HK7⟩ := hrel
            by_cases hlt : q < (now x.1).length
            · obtain ⟨b8, off8, sp, hA8, hb8, hx8, e0, e1⟩ := (ho7.sl S2_len).span hlt
              subst hA8
              have HST := Lib.hid (regsTo_step (p := x) hx8)
              have HLT := Lib.hid (regsTo_len x (now x.1) q hq)
              generalize hout : st.out ++ (regsOf x (now x.1)).take q = o7 at *
              have ho7l : o7.length = st.out.length + q := by rw [← hout, List.length_append, HLT.out]
              have hol7 : o7.length ≤ 16004000 := by omega
              have HOUT := Lib.hid hout; clear hout
              have cO := h7.bO.cell
              have cX := bX7.cell
              simp only at cO
              have hPO7 := h7.bO.lt
              have hX7 := bX7.lt
              simp only at hPO7
              have n1 : w2.heap.size ≠ wr.heap.size := by omega
              have n2 : Bx ≠ wr.heap.size := by omega
              have n3 : w2.heap.size ≠ wr.heap.size + 1 := by omega
              have H7 := Lib.hid h7; have HO7 := Lib.hid ho7; have HX7 := Lib.hid bX7; clear h7 ho7 bX7 hx8 ho7l
              gi_wp2_with (gi_at_builtin; refine wpListIn_app _ rfl (.tmp 80) (.tmp 88) _ rfl elemRegs Reg.vals_len Reg.vals_one (base := w2.heap.size) (.slice Ao' o7.length co') o7 rfl ((H7.out.oO.alloc _).alloc _) _ _ 1 1 [⟨x.1, x.2, sp.1, sp.2⟩] rfl (by have := Sl.lit (enc := Reg.vals) (k := 4) (wr.alloc (.cells #[.int .i64 sp.1, .int .i64 sp.2] 109)) #[.int .i64 x.1, .int .i64 x.2, .int .i64 sp.1, .int .i64 sp.2] 35 [⟨x.1, x.2, sp.1, sp.2⟩] rfl Reg.vals_len; simp only [World.size_alloc] at this; exact this) (by omega) (by simp; omega) ?_; intro A9 c9 w9 ho9 hg9 hat9; have h8 := H7.out.quiet (W' := ((wr.alloc (.cells #[.int .i64 sp.1, .int .i64 sp.2] 109)).alloc (.cells #[.int .i64 x.1, .int .i64 x.2, .int .i64 sp.1, .int .i64 sp.2] 35))) (grownTwo _ _ _); have h9 := h8.app w3.heap.size hg9 ho9; have c9' := h9.1.cell; have f9' := h9.1.frozen; simp only at c9' f9')
              go_roundw
              case rel =>
                have hX9 := ((HX7.out.alloc (.cells #[.int .i64 sp.1, .int .i64 sp.2] 109)).alloc (.cells #[.int .i64 x.1, .int .i64 x.2, .int .i64 sp.1, .int .i64 sp.2] 35)).grown hg9 (h8.oO.neBox ((HX7.out.alloc _).alloc _) (by decide))
                have hO9 := ((HO7.out.alloc (.cells #[.int .i64 sp.1, .int .i64 sp.2] 109)).alloc (.cells #[.int .i64 x.1, .int .i64 x.2, .int .i64 sp.1, .int .i64 sp.2] 35)).grown hg9 (((HO7.out.alloc _).alloc _).ne h8.oO (by decide))
                refine ⟨q + 1, c9, A9, by omega, by go_num, ?_, hO9.far (fun e => hO9.neBox h9.1 (by decide) e.symm) _, hX9.far (by simp; omega) _, ?_⟩
                · have := h9.2.1
                  rw [HST.out, ← List.append_assoc, HOUT.out]
                  exact this
                · exact HK7.out.trans ((H7.out.kept_quiet w3.heap.size (grownTwo _ _ _)).trans h9.2.2)
              case measure => simp [intOf]; omega
            · have HSA := Lib.hid (show (regsOf x (now x.1)).take q = regsOf x (now x.1) from List.take_of_length_le (by unfold regsOf; rw [List.length_map]; omega))
              rw [HSA.out] at h7
              have h8 := h7.setS w3.heap.size ho7
              have h9 := h8.1.setE w3.heap.size x.2
              have cS := h7.bS.cell; have fS := h7.bS.frozen; have cE := h8.1.bE.cell; have fE := h8.1.bE.frozen
              have hlS := h7.bS.lt; have hlE := h7.bE.lt; have cE' := h7.bE.cell; have fE' := h7.bE.frozen
              simp only at cS fS cE fE hlS hlE cE' fE'
              have H7 := Lib.hid h7; have H8 := Lib.hid h8; have H9 := Lib.hid h9; clear h7 h8 h9
              gi_wp2
              refine ⟨(HK7.out.trans (H8.out.2.trans H9.out.2)).1, (HK7.out.trans (H8.out.2.trans H9.out.2)).2, Ao', co', A5, c5, ?_⟩
              rw [HSN.out]
              unfold combStep
              rw [if_neg (fun h => HEN.out h.1)]
              exact H9.out.1
      case done =>
        rintro D ys W hD rfl ⟨Ao, co, Ap, cp, h⟩ hK
        have cO := h.bO.cell
        have HH := Lib.hid h; clear h
        subst hKK
        simp only at cO
        gi_wp2
        refine ⟨by simp, .inl ⟨_, _, rfl, run_takeDeferred hK, ?_⟩⟩
        refine ⟨_, results_tmp rfl _ _ _, ?_⟩
        have hF := HH.out.frame (grownBy_putObj' W D (.deferred none)) (fun r e => by cases e; exact ⟨by simp; omega, _, hK, rfl⟩)
        rw [HCL.out]
        exact RetOwn.mk rfl (hF.oO.base_ (by simp; omega)) hF.bl
      case stop =>
        rintro D c pre W _ _ h _
        exact h.elim
end Go.Proofs.YtiefdlfninhbgaaGreatDoor
