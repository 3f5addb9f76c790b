/- Merged texts: N18, Box, Rf. -/
import Derived.Test.YtbnfgbcgpbdpcaaGreatDoorQGW4
import Derived.Test.YtbnfgbcgpbdpcaaGreatDoorBase
import Derived.RangeFuncNested
import Derived.RangeFuncCalls
/- Contract of integer.Div. -/
namespace Go.Proofs.YtbnfgbcgpbdpcaaGreatDoor
open Go.RowKit Go.Shelf

/-- The two numbers in their blocks, and what Div has computed of them. -/
structure DvSt (w : World) (p : Nat) (na nb : Bool) (A1 A2 : Option Addr) (n1 c1 n2 c2 : Nat) (ys : List Nat) (wc : World) : Prop where
  x : NumB wc p na A1 n1 c1
  y : NumB wc (p + 1) nb A2 n2 c2
  g : Gr wc wc.heap.size A2 n2 ys
  bl : Below w.heap.size w wc
theorem DvSt.here {w : World} {p : Nat} {na nb : Bool} {A1 A2 : Option Addr} {n1 c1 n2 c2 : Nat} {ys : List Nat} {W W' : World} (h : DvSt w p na nb A1 A2 n1 c1 n2 c2 ys W) (hb : Below W.heap.size W W') : DvSt w p na nb A1 A2 n1 c1 n2 c2 ys W' :=
  ⟨h.x.here hb, h.y.here hb, h.g.here hb, h.bl.trans (hb.mono h.bl.size)⟩
set_option maxRecDepth 20000 in
set_option maxHeartbeats 600000 in
theorem Div_any (a b : List UInt8) (w : World) (hp : Pow w) (ha : a.length ≤ 100000) (hb : b.length ≤ 100000) : Calls Tryz.prog 51 #[S a, S b] w (Div3Post (val a) (val b) w) := by
  have HRa := Lib.hid (read_any a w (by omega))
  have HRb := Lib.hid (fun W => read_any b W (by omega))
  obtain ⟨K, hK⟩ : ∃ K : Nat, K = 100000 := ⟨_, rfl⟩
  have hva := valD_small (show a.length ≤ K by omega)
  have hvb := valD_small (show b.length ≤ K by omega)
  have HK := Lib.hid hK; clear hK
  have HSA := Lib.hid (sv_val a); have HSB := Lib.hid (sv_val b)
  have HZ := Lib.hid (valD_zero b)
  have HPO := Lib.hid (show Div3Post (val a) (val b) w = fun e w' => e = .returned (if val b = 0 then .tuple #[S [], S [], .int .i64 10] else .tuple #[S (txtL ((val a).fdiv (val b))), S (txtL ((val a).fmod (val b))), .int .i64 0]) ∧ Below w.heap.size w w' from rfl)
  unfold ReadPost at HRa HRb
  have HVA := Lib.hid hva; have HVB := Lib.hid hvb; have HP := Lib.hid hp
  generalize Div3Post (val a) (val b) w = post at *
  generalize val a = x at *
  generalize val b = y at *
  generalize (digL a).2 = na at *
  generalize (digL b).2 = nb at *
  generalize valD (digL a).1 = u at *
  generalize valD (digL b).1 = v at *
  clear ha hb hva hvb hp
  unfold S at *
  go_enter Tryz.func51, Tryz.ntmps51
  go_wp2_with fail
  refine HRa.out.mono ?_
  rintro e w1 ⟨A1, n1, c1, xs, rfl, ho1, mg1, hb1⟩
  have HO1 := Lib.hid ho1; have HM1 := Lib.hid mg1; clear ho1 mg1 HRa
  go_wp2_with fail
  refine (HRb.out _).mono ?_
  rintro e w2 ⟨A2, n2, c2, ys, rfl, ho2, mg2, hb2⟩
  have HO2 := Lib.hid ho2; have HM2 := Lib.hid mg2; clear ho2 mg2 HRb
  have HX1 := Lib.hid ((HO1.out.below hb2).sl U1_len)
  have HX2 := Lib.hid (HO2.out.sl U1_len)
  have HL1 := Lib.hid (show n1 ≤ K by rw [HX1.out.1]; exact HM1.out.len HVA.out)
  have HL2 := Lib.hid (show n2 ≤ K by rw [HX2.out.1]; exact HM2.out.len HVB.out)
  have hcap1 : n1 ≤ c1 := by obtain ⟨h1, h2, _⟩ := HO1.out.facts; omega
  have hb02 := hb1.trans (hb2.mono hb1.size)
  have hN1 : NumB ((w2.alloc (.cells #[.bool na, .slice A1 n1 c1] 73)).alloc (.cells #[.bool nb, .slice A2 n2 c2] 73)) w2.heap.size na A1 n1 c1 := (NumB.new w2 na A1 n1 c1).alloc _
  have hN2 : NumB ((w2.alloc (.cells #[.bool na, .slice A1 n1 c1] 73)).alloc (.cells #[.bool nb, .slice A2 n2 c2] 73)) (w2.heap.size + 1) nb A2 n2 c2 := by
    have := NumB.new (w2.alloc (.cells #[.bool na, .slice A1 n1 c1] 73)) nb A2 n2 c2
    simpa using this
  have hbA : Below w2.heap.size w2 ((w2.alloc (.cells #[.bool na, .slice A1 n1 c1] 73)).alloc (.cells #[.bool nb, .slice A2 n2 c2] 73)) := ((Below.refl _ _).alloc (Nat.le_refl _) _).alloc (by simp) _
  have HX1' := Lib.hid (HX1.out.here hbA); have HX2' := Lib.hid (HX2.out.here hbA)
  have hb0A := hb02.trans (hbA.mono hb02.size)
  have HST := Lib.hid (show DvSt w w2.heap.size na nb A1 A2 n1 c1 n2 c2 ys _ from ⟨hN1, hN2, HX2'.out, hb0A⟩)
  have HNZ := Lib.hid (show n2 = 0 ↔ v = 0 by rw [HX2.out.1, ← HM2.out.nil_iff]; exact ⟨List.eq_nil_of_length_eq_zero, fun h => by rw [h]; rfl⟩)
  clear hN1 hN2 hbA HX1 HX2 HO1 HO2
  by_cases hy0 : y = 0
  · have hn2 : n2 = 0 := HNZ.out.2 (HZ.out.2 hy0)
    rw [if_pos hy0] at HPO
    have hn2b : ((n2 : Int) == 0) = true := by simp [hn2]
    clear HST HX1' HX2' HNZ HSB hn2 hy0 HZ
    go_wp2_with fail
    go_ret3
    rw [HPO.out]
    exact ⟨rfl, hb0A⟩
  · have hv0 : 0 < v := Nat.pos_of_ne_zero (fun h => hy0 (HZ.out.1 h))
    have hn2 : 0 < n2 := Nat.pos_of_ne_zero (fun h => by have := HNZ.out.1 h; omega)
    have hn2b : ((n2 : Int) == 0) = false := by simp; omega
    rw [if_neg hy0] at HPO
    clear hy0 HNZ HZ
    go_wp2_with fail
    generalize (w2.alloc (.cells #[.bool na, .slice A1 n1 c1] 73)).alloc (.cells #[.bool nb, .slice A2 n2 c2] 73) = W at *
    (with_reducible refine (divide_any A1 A2 n1 n2 c1 c2 xs ys u v W HX1'.out HX2'.out HM1.out HM2.out (by have := HL1.out; have := HK.out; omega) (by have := HL2.out; have := HK.out; omega) hcap1 hv0).mono ?_)
    rintro e w3 ⟨A3, n3, c3, qs, A4, n4, c4, rs, rfl, hg3, hc3, mg3, hg4, hc4, mg4, hb3⟩
    have HS3 := Lib.hid (HST.out.here hb3)
    have HG3 := Lib.hid hg3; have HG4 := Lib.hid hg4; have HM3 := Lib.hid mg3; have HM4 := Lib.hid mg4
    have HL3 := Lib.hid (show n3 ≤ K by rw [hg3.1]; exact mg3.len (Nat.lt_of_le_of_lt (Nat.div_le_self _ _) HVA.out))
    have HL4 := Lib.hid (show n4 ≤ K by rw [hg4.1]; exact mg4.len (Nat.lt_trans (Nat.mod_lt _ hv0) HVB.out))
    have HNZ4 := Lib.hid (show n4 = 0 ↔ u % v = 0 by rw [hg4.1, ← mg4.nil_iff]; exact ⟨List.eq_nil_of_length_eq_zero, fun h => by rw [h]; rfl⟩)
    have HFD := Lib.hid (fdiv_sv na nb u v hv0)
    rw [HSA.out, HSB.out] at HFD
    clear hg3 hg4 mg3 mg4 HST hn2b
    have x0 := HS3.out.x.cells.1
    have y0 := HS3.out.y.cells.1
    have y1 := HS3.out.y.cells.2
    obtain ⟨bb, hbb⟩ : ∃ bb : Bool, bb = ((na != nb) && decide (0 < n4)) := ⟨_, rfl⟩
    have HBB := Lib.hid hbb; clear hbb
    go_upto_region 5 with (fail)
    go_cut [36] (fun s wc => s = .bool bb ∧ wc = w3)
    case first =>
      cases na <;> cases nb
      all_goals
        go_wp2_with fail
        go_meet
        refine ⟨by rw [HBB.out]; rfl, rfl⟩
    case rest =>
    obtain ⟨rfl, hwc⟩ := hcut
    obtain ⟨w4, rfl⟩ : ∃ W, W = wc := ⟨_, rfl⟩
    subst hwc
    go_upto_if 36 with (fail)
    go_cut [9, 10] (fun s t wc => ∃ (A5 A6 : Option Addr) (n5 c5 n6 c6 : Nat) (qs' rs' : List Nat) (Q R : Nat), s = .slice A5 n5 c5 ∧ t = .slice A6 n6 c6 ∧ Hid (Gr wc wc.heap.size A5 n5 qs') ∧ Hid (Gr wc wc.heap.size A6 n6 rs') ∧ n5 ≤ c5 ∧ n6 ≤ c6 ∧ Hid (n5 ≤ K + 1) ∧ Hid (n6 ≤ K + 1) ∧ Hid (Mag qs' Q) ∧ Hid (Mag rs' R) ∧ Hid (x.fdiv y = sv (na != nb) Q) ∧ Hid (x.fmod y = sv nb R) ∧ Hid (DvSt w w2.heap.size na nb A1 A2 n1 c1 n2 c2 ys wc))
    case first =>
      cases bb with
      | false =>
        have HEQ := Lib.hid (HFD.out.1 (by
          have h1 := HBB.out
          by_cases h : na = nb
          · exact .inl h
          · refine .inr (HNZ4.out.1 ?_)
            have h2 : (na != nb) = true := by simpa using h
            rw [h2] at h1
            simp at h1
            exact h1))
        go_wp2_with fail
        go_meet
        exact ⟨A3, A4, n3, c3, n4, c4, qs, rs, u / v, u % v, rfl, rfl, HG3, HG4, hc3, hc4, by show _ ≤ _; have := HL3.out; omega, by show _ ≤ _; have := HL4.out; omega, HM3, HM4, HEQ.out.1, HEQ.out.2, HS3⟩
      | true =>
        have hne : na ≠ nb ∧ 0 < n4 := by have h1 := HBB.out; simp at h1; exact h1
        have hr0 : 0 < u % v := Nat.pos_of_ne_zero (fun h => by have := HNZ4.out.2 h; omega)
        have HEQ := Lib.hid (HFD.out.2 ⟨hne.1, hr0⟩)
        clear hne
        have hbP : Below w4.heap.size w4 (w4.alloc (.cells #[.int .u64 1] 119)).drew := ((Below.refl _ _).alloc (Nat.le_refl _) _).drew
        have HSL := Lib.hid (show Gr (w4.alloc (.cells #[.int .u64 1] 119)).drew (w4.alloc (.cells #[.int .u64 1] 119)).drew.heap.size (some ⟨w4.heap.size, 0, none⟩) 1 [1] by
          have := Sl.lit w4 #[.int .u64 1] 119 [1] rfl U1_len
          simpa using this.drew)
        have HPL := Lib.hid (plus_any A3 (some ⟨w4.heap.size, 0, none⟩) n3 1 c3 1 qs [1] (u / v) 1 (w4.alloc (.cells #[.int .u64 1] 119)).drew (HG3.out.here hbP) HSL.out HM3.out (Mag.one (by omega) (by omega)) (by have := HL3.out; have := HK.out; omega) (by omega))
        have HBP := Lib.hid hbP
        clear hbP HSL
        go_upto_region 6 with (fail)
        go_region_held3 (fun w' => w'.cell? ⟨w2.heap.size + 1, 1, none⟩ = some (.slice A2 n2 c2))
          (first
            | go_keep
            | exact (HS3.out.here hbz).y.cells.2
            | exact (HS3.out.here hbz2).y.cells.2)
          (first
            | (go_at_call 68; refine HPL.out.mono ?_; rintro e w5 ⟨A5, n5, c5, qs', rfl, ho5, mg5, hb5⟩
               have hbz : Below w4.heap.size w4 w5 := HBP.out.trans (hb5.mono HBP.out.size)
               have HO5 := Lib.hid ho5; have HM5 := Lib.hid mg5
               clear ho5 mg5)
            | (go_at_call 70; refine (minus_any A2 A4 n2 n4 c2 c4 ys rs v (u % v) _ (HS3.out.here hbz).g (HG4.out.here hbz) HM2.out HM4.out (by have := HL2.out; have := HK.out; omega) (Nat.le_of_lt (Nat.mod_lt _ hv0))).mono ?_; rintro e w6 ⟨A6, n6, c6, rs', rfl, ho6, mg6, hb6⟩
               have hbz2 : Below w4.heap.size w4 w6 := hbz.trans (hb6.mono hbz.size)
               have HO6 := Lib.hid ho6; have HM6 := Lib.hid mg6
               clear ho6 mg6))
        all_goals
          go_wp2_with fail
          go_meet
          have h5 := HO5.out.below hb6
          refine ⟨A5, A6, n5, c5, n6, c6, qs', rs', u / v + 1, v - u % v, rfl, rfl, h5.sl U1_len, HO6.out.sl U1_len, ?_, ?_, ?_, ?_, HM5, HM6, HEQ.out.1, HEQ.out.2, HS3.out.here hbz2⟩
          · obtain ⟨h1, h2, _⟩ := h5.facts; omega
          · obtain ⟨h1, h2, _⟩ := HO6.out.facts; omega
          · show _ ≤ _
            rw [h5.facts.1]
            refine HM5.out.len ?_
            rw [Nat.pow_succ]
            have h1 := Nat.div_le_self u v
            have h2 := HVA.out
            omega
          · show _ ≤ _
            rw [HO6.out.facts.1]
            refine HM6.out.len ?_
            rw [Nat.pow_succ]
            have h2 := HVB.out
            omega
    case rest =>
    obtain ⟨A5, A6, n5, c5, n6, c6, qs', rs', Q, R, rfl, rfl, HG5, HG6, hc5, hc6, HL5, HL6, HM5, HM6, HE1, HE2, HS5⟩ := hcut
    obtain ⟨w5, rfl⟩ : ∃ W, W = wc := ⟨_, rfl⟩
    clear x0 y0 y1 HS3 HG3 HG4
    obtain ⟨x0, y0⟩ : w5.cell? ⟨w2.heap.size, 0, none⟩ = some (.bool na) ∧ w5.cell? ⟨w2.heap.size + 1, 0, none⟩ = some (.bool nb) := ⟨HS5.out.x.cells.1, HS5.out.y.cells.1⟩
    have HT1 := Lib.hid (text_any (na != nb) A5 n5 c5 qs' w5.drew HG5.out.drew HM5.out.gs hc5 (by have := HL5.out; have := HK.out; omega) (HP.out.here HS5.out.bl.drew))
    rw [HM5.out.val, numT_sv, ← HE1.out, show (na != nb) = !(na == nb) from rfl] at HT1
    have HT2 := Lib.hid (fun W (hb : Below w5.heap.size w5 W) => text_any nb A6 n6 c6 rs' W (HG6.out.here hb) HM6.out.gs hc6 (by have := HL6.out; have := HK.out; omega) (HP.out.here (HS5.out.here hb).bl))
    rw [HM6.out.val, numT_sv, ← HE2.out] at HT2
    unfold S at HT1 HT2
    go_upto_region 7 with (fail)
    go_region_held3 (fun w' => w'.cell? ⟨w2.heap.size, 0, none⟩ = some (.bool na) ∧ w'.cell? ⟨w2.heap.size + 1, 0, none⟩ = some (.bool nb))
      (first
        | go_keep
        | exact ⟨(HS5.out.here hbz).x.cells.1, (HS5.out.here hbz).y.cells.1⟩
        | exact ⟨(HS5.out.here hbz2).x.cells.1, (HS5.out.here hbz2).y.cells.1⟩)
      (first
        | (go_at_call_of 37 (Value.agg #[.bool (!(na == nb)), .slice A5 n5 c5]); refine HT1.out.mono ?_; rintro e w6 ⟨rfl, hb6⟩
           have hbz : Below w5.heap.size w5 w6 := (Below.refl _ w5).drew.trans hb6)
        | (go_at_call 37; refine (HT2.out _ hbz).mono ?_; rintro e w7 ⟨rfl, hb7⟩
           have hbz2 : Below w5.heap.size w5 w7 := hbz.trans (hb7.mono hbz.size)))
    all_goals
      go_wp2_with fail
      go_ret3
      rw [HPO.out]
      exact ⟨rfl, HS5.out.bl.trans (hbz2.mono HS5.out.bl.size)⟩
end Go.Proofs.YtbnfgbcgpbdpcaaGreatDoor
/- A variable in a block of its own (a captured variable). -/
namespace Go.Proofs.YtbnfgbcgpbdpcaaGreatDoor
open Go.RowKit

def Box (w : World) (B : Nat) (t : TypeId) (v : Value) : Prop := w.heap[B]? = some (.cells #[v] t (0, 0))
section
variable {w w' : World} {B B' : Nat} {t t' : TypeId} {v u : Value}
theorem Box.lt (h : Box w B t v) : B < w.heap.size := (Array.getElem?_eq_some_iff.1 h).1
theorem Box.cell (h : Box w B t v) : w.cell? ⟨B, 0, none⟩ = some v := by
  have := cell_of_row w B 0 #[v] t (0, 0) h
  simpa using this
theorem Box.frozen (h : Box w B t v) : w.frozen? ⟨B, 0, none⟩ = false := by
  unfold Box at h
  simp [World.frozen?, h]
theorem Box.new (w : World) (t : TypeId) (v : Value) : Box (w.alloc (.cells #[v] t)) w.heap.size t v := heap_alloc_new w _
theorem Box.drew (h : Box w B t v) : Box w.drew B t v := h
theorem Box.drewN (h : Box w B t v) (n : Nat) : Box (w.drewN n) B t v := h
theorem Box.alloc (h : Box w B t v) (o : Obj) : Box (w.alloc o) B t v := (Below.heap_alloc w o B h.lt).trans h
theorem Box.set_ (h : Box w B t v) (u : Value) : Box (w.setCell ⟨B, 0, none⟩ u) B t u := by
  unfold Box at h ⊢
  simp [World.setCell, Array.getElem?_modify, h]
theorem Box.far (h : Box w B t v) {p : Addr} (hp : B ≠ p.block) (u : Value) : Box (w.setCell p u) B t v := (Below.heap_setCell w p u B hp).trans h
theorem Box.below {n : Nat} (h : Box w B t v) (hb : Below n w w') (hg : B < n) : Box w' B t v := (hb.block B hg).trans h
theorem Box.here (h : Box w B t v) (hb : Below w.heap.size w w') : Box w' B t v := h.below hb h.lt
theorem Box.grown {row : Option Nat} (h : Box w B t v) (hb : w.grownBy w' row) (hg : some B ≠ row) : Box w' B t v := (hb.block B h.lt hg).trans h
theorem Box.ne (h : Box w B t v) (h' : Box w B' t' u) (hne : t ≠ t') : B ≠ B' := by
  rintro rfl
  unfold Box at h h'
  rw [h] at h'
  injection h' with h'
  injection h' with _ ht
  exact hne ht
theorem Own.neBox {α : Type} {enc : α → List Value} {k base : Nat} {e : TypeId} {x : Value} {xs : List α} (h : Own enc k e w base x xs) (hb : Box w B t u) (hne : e ≠ t) : some B ≠ x.ownBlock := by
  rcases h.2 with ⟨rfl, _⟩ | ⟨g, cap, cur, rfl, _, hg, _⟩
  · simp [Value.ownBlock]
  · intro hh
    simp only [Value.ownBlock, Option.some.injEq] at hh
    subst hh
    unfold Box at hb
    rw [hg] at hb
    injection hb with hb
    injection hb with _ ht
    exact hne ht
end
end Go.Proofs.YtbnfgbcgpbdpcaaGreatDoor
/- A range over a function whose iterator keeps its state in cells of its own; the body goes on always. The loop's state is told by the value that was yielded last. -/
namespace Go.Proofs.YtbnfgbcgpbdpcaaGreatDoor
open Go.RowKit

/-- The blocks but p and q are as they were. -/
def Kp2 (p q : Nat) (W W' : World) : Prop := Below 0 W W' ∧ ∀ b, b < W.heap.size → b ≠ p → b ≠ q → W'.heap[b]? = W.heap[b]?
theorem Kp2.refl (p q : Nat) (W : World) : Kp2 p q W W := ⟨Below.refl _ _, fun _ _ _ _ => rfl⟩
theorem Kp2.size {p q : Nat} {A B : World} (h : Kp2 p q A B) : A.heap.size ≤ B.heap.size := h.1.size
theorem Kp2.trans {p q : Nat} {A B C : World} (h : Kp2 p q A B) (k : Kp2 p q B C) : Kp2 p q A C :=
  ⟨h.1.trans k.1, fun b hb h1 h2 => (k.2 b (Nat.lt_of_lt_of_le hb h.size) h1 h2).trans (h.2 b hb h1 h2)⟩
theorem Kp2.below {p q : Nat} {A B : World} (h : Below A.heap.size A B) : Kp2 p q A B := ⟨h.mono (Nat.zero_le _), fun b hb _ _ => h.block b hb⟩
theorem Kp2.set1 {p q : Nat} {A B : World} (h : Kp2 p q A B) (j : Nat) (u : Value) : Kp2 p q A (B.setCell ⟨p, j, none⟩ u) :=
  ⟨h.1.setCell (Nat.zero_le _) _, fun b hb h1 h2 => (Below.heap_setCell B ⟨p, j, none⟩ u b h1).trans (h.2 b hb h1 h2)⟩
theorem Kp2.set2 {p q : Nat} {A B : World} (h : Kp2 p q A B) (j : Nat) (u : Value) : Kp2 p q A (B.setCell ⟨q, j, none⟩ u) :=
  ⟨h.1.setCell (Nat.zero_le _) _, fun b hb h1 h2 => (Below.heap_setCell B ⟨q, j, none⟩ u b h2).trans (h.2 b hb h1 h2)⟩
theorem Kp2.put {p q : Nat} {A B : World} (h : Kp2 p q A B) (o : Obj) : Kp2 p q A (B.putObj q o) :=
  ⟨h.1.grown (grownBy_putObj' B q o) (Nat.zero_le _) (fun _ _ => Nat.zero_le _), fun b hb h1 h2 => (World.putObj_heap_other (by omega)).trans (h.2 b hb h1 h2)⟩
/-- What lies below both is as it was. -/
theorem Kp2.under {p q N : Nat} {A B C : World} (h : Kp2 p q B C) (hb : Below N A B) (hN : N ≤ B.heap.size) (hp : N ≤ p) (hq : N ≤ q) : Below N A C :=
  ⟨h.1.os.trans hb.os, h.1.tape.trans hb.tape, h.1.output.trans hb.output, Nat.le_trans hb.size h.size, fun b hb' => (h.2 b (by omega) (by omega) (by omega)).trans (hb.block b hb')⟩
theorem Kp2.drew {p q : Nat} {A B : World} (h : Kp2 p q A B) : Kp2 p q A B.drew := ⟨h.1.drew, h.2⟩
theorem Kp2.box {p q b : Nat} {t : TypeId} {v : Value} {A B : World} (h : Kp2 p q A B) (hb : Box A b t v) (h1 : b ≠ p) (h2 : b ≠ q) : Box B b t v := (h.2 b hb.lt h1 h2).trans hb

theorem wpIn_rangeFunc_last {F : Fence} {n : Nat} {P : Program} {g : Operand} {ps : Array Tmp} {assign body : Code} {Q : Exit → Act → World → Prop} {a : Act} {w : World}
    (hro : F.round = none) (h1 : 1 ≤ n) {gf : Nat} {lb : Array Value} (hg : a.eval g = .func (.func gf) #[] lb) (hFg : F.fn gf) (eg : ∀ args w, (callFunc gf args).run P w = .ok (.enter gf args) w)
    (po : Nat) (hpo : po < w.heap.size) (Ki : World → World → Prop) (T : Value → World → Prop)
    (hKi : ∀ A B, Ki A B → ∀ b, w.heap.size ≤ b → b < A.heap.size → B.heap[b]? = A.heap[b]?)
    (s0 : Value)
    (hseq : ∀ (l : Nat) (J : Value → World → Prop) (W : World), w.heap.size ≤ l → Below w.heap.size w W → (∀ s A B, J s A → Ki A B → J s B) → (∀ s A, J s A → ∃ r, A.heap[l]? = some (.loop r)) → (∀ s A, J s A → ∃ t v, Box A po t v ∧ (∃ B m c, v = .slice B m c)) →
      (∀ s B m c y W1, J s W1 → YieldAt F (n - 1 - 1) P l #[.slice B m c, y] W1 fun e W' => e = .returned (.bool true) ∧ J (.slice B m c) W' ∧ Kp2 po l W1 W') → J s0 W →
      CallsIn F (n - 1) P gf (#[.func (.yield l) #[] #[]] ++ lb) W fun e W' => (∃ v, e = .returned v) ∧ ∃ s, J s W' ∧ T s W')
    (hps : ps.size = 2)
    (I : Value → World → Prop) (hI : ∀ s A B, I s A → Ki A B → I s B) (hIb : ∀ s A, I s A → ∃ t v, Box A po t v ∧ (∃ B m c, v = .slice B m c)) (hIp : ∀ s A B l, w.heap.size ≤ l → I s A → Kp2 l l A B → I s B) (h0 : I s0 w)
    (ax : Value → Value → Act)
    (hassign : ∀ (l : Nat) (x y : Value) (W : World) (K : Act → World → Prop), K (ax x y) W →
      assign.wpIn (F.inRound l) (n - 1 - 1) P (Exit.then K (fun _ _ _ => False)) { tmps := (ps.zip #[x, y]).foldl (fun t (p, v) => t.setIfInBounds p v) a.tmps, defers := [] } W)
    (hbody : ∀ (l : Nat) (s : Value) (B : Option Addr) (m c : Nat) (y : Value) (W : World), w.heap.size ≤ l → I s W → body.wpIn (F.inRound l) (n - 1 - 1) P (fun e _ W' => e = .normal ∧ Kp2 po po W W' ∧ I (.slice B m c) W') (ax (.slice B m c) y) W)
    (hdone : ∀ (D : Nat) (s : Value) (W W0 : World), w.heap.size ≤ D → I s W → T s W0 → Kp2 (w.heap.size + 1) (w.heap.size + 1) W0 W → (∃ r, W0.heap[w.heap.size + 1]? = some (.loop r)) → W.heap[D]? = some (.deferred (some [])) → Q .normal { a with defers := { target := .collected D, args := #[] } :: a.defers } W) :
    (Code.rangeFunc g ps assign body).wpIn F n P Q a w := by
  refine wpIn_rangeFunc ?_
  intro fn hfn
  rw [hro]
  obtain ⟨rec, hrec⟩ : ∃ rec : LoopState → Option Code → Loop, rec = fun st pe => { state := st, pending := pe, fn, tmps := a.tmps, params := ps, assign, body, defers := w.heap.size } := ⟨_, rfl⟩
  obtain ⟨W1, hW1⟩ : ∃ W1, (w.alloc (.deferred (some []))).alloc (.loop (rec .ready none)) = W1 := ⟨_, rfl⟩
  have hL1 : W1.heap[w.heap.size + 1]? = some (.loop (rec .ready none)) := by
    rw [← hW1]; have := World.alloc_heap_new (w.alloc (.deferred (some []))) (.loop (rec .ready none)); rwa [World.size_alloc] at this
  have hK1 : W1.heap[w.heap.size]? = some (.deferred (some [])) := by
    rw [← hW1]; exact (Below.heap_alloc _ _ _ (by simp)).trans (World.alloc_heap_new w _)
  have hb1 : Below w.heap.size w W1 := by
    rw [← hW1]; exact ((Below.refl _ w).alloc (Nat.le_refl _) _).alloc (by simp) _
  have hI1 : I s0 W1 := hIp s0 w W1 w.heap.size (Nat.le_refl _) h0 (Kp2.below hb1)
  refine ⟨w.heap.size + 1, [{ target := .collected w.heap.size, args := #[] }], W1, { target := .fn (.func gf) lb, args := #[.func (.yield (w.heap.size + 1)) #[] #[]] }, W1, gf,
    #[.func (.yield (w.heap.size + 1)) #[] #[]] ++ lb, W1, ?_, ?_, ?_, ?_, fun _ => h1, ?_⟩
  · rw [← hW1, hrec]; exact run_enterLoop_outer _ _ _ _ _
  · simp only [resolve, hg]
    simp [go_sem]
  · intro f' hf'; simp [Target.leads] at hf'; subst hf'; exact hFg
  · simp [invoke, go_sem, eg]
  · refine (hseq (w.heap.size + 1)
      (fun s W => I s W ∧ W.heap[w.heap.size + 1]? = some (.loop (rec .ready none)) ∧ W.heap[w.heap.size]? = some (.deferred (some [])))
      W1 (by omega) hb1 ?_ (fun s A h => ⟨_, h.2.1⟩) (fun s A h => hIb s A h.1) ?_ ⟨hI1, hL1, hK1⟩).mono ?_
    · rintro s A B ⟨h, hl, hk⟩ hki
      exact ⟨hI s A B h hki, (hKi A B hki _ (by omega) (Array.getElem?_eq_some_iff.1 hl).1).trans hl, (hKi A B hki _ (Nat.le_refl _) (Array.getElem?_eq_some_iff.1 hk).1).trans hk⟩
    · rintro s B m c y W ⟨hi, hl, hk⟩
      have hlt : w.heap.size + 1 < W.heap.size := (Array.getElem?_eq_some_iff.1 hl).1
      have hy := run_yield (P := P) (args := #[.slice B m c, y]) hl (by rw [hrec]; exact hps.symm)
      rw [hrec] at hy
      refine ⟨fn, _, assign, body, hy, roundIn_of_wpIn hfn (hassign _ (.slice B m c) y W _ ?_)⟩
      clear hy
      refine ⟨_, run_beginRound hl (by rw [hrec]), ?_⟩
      have hl2 : (W.putObj (w.heap.size + 1) (.loop { rec .ready none with state := .busy })).heap[w.heap.size + 1]? = some (.loop { rec .ready none with state := .busy }) := World.putObj_heap_same hlt
      have hk2 : (W.putObj (w.heap.size + 1) (.loop { rec .ready none with state := .busy })).heap[w.heap.size]? = some (.deferred (some [])) := (World.putObj_heap_other (by omega)).trans hk
      have hkp : Kp2 (w.heap.size + 1) (w.heap.size + 1) W (W.putObj (w.heap.size + 1) (.loop { rec .ready none with state := .busy })) := (Kp2.refl _ _ _).put _
      have hi2 := hIp s _ _ _ (by omega) hi hkp
      refine wpIn_mono (hbody _ s B m c y _ (by omega) hi2) ?_
      rintro e a3 W3 ⟨rfl, hk3, hi3⟩
      have hl3 := (hk3.2 (w.heap.size + 1) (by simpa [World.putObj] using hlt) (by omega) (by omega)).trans hl2
      have hkk3 := (hk3.2 w.heap.size (by simp [World.putObj]; omega) (by omega) (by omega)).trans hk2
      have hr := run_endRound (P := P) none hl3
      refine ⟨_, _, hr, rfl, ⟨hIp _ _ _ _ (by omega) hi3 ((Kp2.refl (w.heap.size + 1) (w.heap.size + 1) W3).put _), ?_, ?_⟩, ?_⟩
      · rw [World.putObj_heap_same (Array.getElem?_eq_some_iff.1 hl3).1, hrec]; rfl
      · exact (World.putObj_heap_other (by omega)).trans hkk3
      · have e1 : Kp2 po (w.heap.size + 1) W (W.putObj (w.heap.size + 1) (.loop { rec .ready none with state := .busy })) := (Kp2.refl _ _ _).put _
        have e2 : Kp2 po (w.heap.size + 1) (W.putObj (w.heap.size + 1) (.loop { rec .ready none with state := .busy })) W3 := ⟨hk3.1, fun b hb hb1 _ => hk3.2 b hb hb1 hb1⟩
        exact (e1.trans e2).put _
    · rintro e W2 ⟨⟨v, rfl⟩, s, ⟨hi, hl, hk⟩, ht⟩
      refine ⟨none, _, by have := run_endLoop (P := P) hl (by rw [hrec]; simp); rw [hrec] at this; exact this, hdone _ s _ W2 (Nat.le_refl _) (hIp s _ _ _ (by omega) hi ((Kp2.refl (w.heap.size + 1) (w.heap.size + 1) W2).put _)) ht ((Kp2.refl (w.heap.size + 1) (w.heap.size + 1) W2).put _) ⟨_, hl⟩ ((World.putObj_heap_other (by omega)).trans hk)⟩
end Go.Proofs.YtbnfgbcgpbdpcaaGreatDoor
