/- Merged texts: R4, R5. -/
import Derived.Test.YtpnncoinlopndaaGreatDoorQGTn22
import Derived.Test.YtpnncoinlopndaaGreatDoorQGTn2
import Derived.IntWalk
namespace Go.Proofs.YtpnncoinlopndaaGreatDoor
open Go.RowKit Go.Shelf
def iV (x : Nat) : Value := .int .i64 x
theorem flatI (xs : List Nat) : xs.flatMap G1 = xs.map iV := by
  induction xs with
  | nil => rfl
  | cons a xs ih => rw [List.flatMap_cons, ih]; rfl
theorem infoRI : ∃ i, Tryz.prog.info? 3 = some i ∧ i.zero = some (.int .i64 0) ∧ i.size = 1 ∧ i.bytes = 8 := by
  have h : (Tryz.prog.info? 3).map (fun i => (i.zero, i.size, i.bytes)) = some (some (.int .i64 0), 1, 8) := by kernel_rfl
  cases hi : Tryz.prog.info? 3 with
  | none => rw [hi] at h; cases h
  | some i =>
    rw [hi] at h
    simp only [Option.map_some, Option.some.injEq, Prod.mk.injEq] at h
    exact ⟨i, rfl, h.1, h.2.1, h.2.2⟩
theorem made_i (k : Nat) : (madeCells (Value.int .i64 0).cells k).toList = List.replicate k (Value.int .i64 0) := by
  apply List.ext_getElem?
  intro i
  unfold madeCells
  by_cases hi : i < k
  · simp [hi, Value.cells, Nat.mod_one]
  · simp [hi]
theorem make_i (w : World) (base n m : Nat) (L C : Int) (hL : L = (n : Int)) (hC : C = (m : Int)) (hnm : n ≤ m) (hm : m ≤ 1000000000000) (hb : base ≤ w.heap.size) :
    ∃ w', (Instr.makeSlice 124 (.int .i64 L) (.int .i64 C)).run Tryz.prog w = .ok (.slice (some ⟨w.heap.size, 0, none⟩) n m) w' ∧ Own G1 1 3 w' base (.slice (some ⟨w.heap.size, 0, none⟩) n m) (List.replicate n 0) ∧ Below w.heap.size w w' := by
  subst hL; subst hC
  obtain ⟨i, hi, hz, hs, hby⟩ := infoRI
  have hr := run_make (P := Tryz.prog) w 124 3 i (.int .i64 0) Tryz.underlying124 hi hz .i64 .i64 n m (by omega) (by omega) (by rw [hby]; omega) (by omega)
  simp only [Int.toNat_natCast] at hr
  refine ⟨_, hr, ?_, (Below.refl _ _).alloc (Nat.le_refl _) _⟩
  refine ⟨by rw [flatI, List.length_map, Nat.mul_one], .inr ⟨w.heap.size, m, _, by simp, hb, heap_alloc_new w _, by simpa using hnm, by unfold maxLen; omega, by rw [size_madeCells, hs], ?_⟩⟩
  rw [made_i, hs, flatI, List.length_replicate, List.map_replicate, Nat.mul_one, Nat.mul_one, List.take_replicate, Nat.min_eq_left hnm]
  rfl
theorem Own.setI {w : World} {base g n c i x y : Nat} {os : List Nat} (h : Own G1 1 3 w base (.slice (some ⟨g, 0, none⟩) n c) os) (hi : os[i]? = some x) :
    Own G1 1 3 (w.setCell ⟨g, i, none⟩ (.int .i64 y)) base (.slice (some ⟨g, 0, none⟩) n c) (os.set i y) := by
  have := h.set_ G1_len (i := i) (j := 0) (x := x) (y := y) (u := .int .i64 y) hi (by decide) rfl
  simpa using this
theorem Own.cellI {wr : World} {base g n c : Nat} {xs : List Nat} (h : Own G1 1 3 wr base (.slice (some ⟨g, 0, none⟩) n c) xs) {i x : Nat} (hi : xs[i]? = some x) : wr.cell? ⟨g, i, none⟩ = some (.int .i64 x) := by
  have hl := (List.getElem?_eq_some_iff.1 hi).1
  obtain ⟨b, o, y, e, _, hy, hc⟩ := (h.sl G1_len).gri (i := i) (by rw [h.facts.1]; exact hl)
  injection e with e
  injection e with e1 e2
  subst e1; subst e2
  rw [hi] at hy
  injection hy with hy
  subst hy
  simpa using hc
def RT (xs ys os0 : List Nat) (i x j carry : Nat) (os : List Nat) : Prop := (j ≤ ys.length ∧ TInv os0 ys i x j carry os) ∨ (j = ys.length + 1 ∧ carry = 0 ∧ TOut xs ys (i + 1) os)
theorem RT.facts {xs ys os0 os : List Nat} {i x j carry : Nat} (h : RT xs ys os0 i x j carry os) (h0 : TOut xs ys i os0) (hx : xs[i]? = some x) : Gs os ∧ os.length = xs.length + ys.length ∧ carry < 1000000000 ∧ j ≤ ys.length + 1 := by
  rcases h with ⟨h1, h2⟩ | ⟨h1, h2, h3⟩
  · exact ⟨h2.gs, by rw [h2.len, h0.len], h2.lt, by omega⟩
  · exact ⟨h3.gs, h3.len, by omega, by omega⟩
theorem RT.step {xs ys os0 os : List Nat} {i x j carry o : Nat} (h : RT xs ys os0 i x j carry os) (h0 : TOut xs ys i os0) (hx : xs[i]? = some x) (hx9 : x < 1000000000) (hgy : Gs ys) (hgo : j < ys.length ∨ 0 < carry) (ho : os[i + j]? = some o) :
    j ≤ ys.length ∧ RT xs ys os0 i x (j + 1) ((o + x * gAt ys j + carry) / 1000000000) (os.set (i + j) ((o + x * gAt ys j + carry) % 1000000000)) := by
  rcases h with ⟨h1, h2⟩ | ⟨h1, h2, h3⟩
  · refine ⟨h1, ?_⟩
    by_cases hj : j < ys.length
    · obtain ⟨y, hy⟩ : ∃ y, ys[j]? = some y := ⟨_, List.getElem?_eq_getElem hj⟩
      have hg : gAt ys j = y := by unfold gAt; simp [List.getD, hy]
      have := h2.step ho hy hx9 hgy
      rw [hg, show o + x * y + carry = carry + (o + x * y) by omega]
      exact .inl ⟨by omega, this⟩
    · obtain rfl : j = ys.length := by omega
      have h4 := h0.at_ (List.getElem?_eq_some_iff.1 hx).1 h2
      rw [h4] at ho
      injection ho with ho
      subst ho
      have hlt := h2.lt
      rw [gAt_out (Nat.le_refl _), show (0 + x * 0 + carry) / 1000000000 = 0 by rw [Nat.mul_zero]; omega, show (0 + x * 0 + carry) % 1000000000 = carry by rw [Nat.mul_zero]; omega]
      exact .inr ⟨rfl, rfl, h0.next hx h2⟩
  · exfalso; omega
theorem set_self {os : List Nat} {i x : Nat} (h : os[i]? = some x) : os.set i x = os := by
  apply List.ext_getElem?
  intro j
  rw [List.getElem?_set]
  split
  · rename_i e; subst e; split
    · exact h.symm
    · rename_i h2; rw [List.getElem?_eq_none (by omega)]
  · rfl
theorem RT.done {xs ys os0 os : List Nat} {i x j : Nat} (h : RT xs ys os0 i x j 0 os) (h0 : TOut xs ys i os0) (hx : xs[i]? = some x) (hj : ys.length ≤ j) : TOut xs ys (i + 1) os := by
  rcases h with ⟨h1, h2⟩ | ⟨_, _, h3⟩
  · obtain rfl : j = ys.length := by omega
    have h4 := h0.at_ (List.getElem?_eq_some_iff.1 hx).1 h2
    have := h0.next hx h2
    rwa [set_self h4] at this
  · exact h3
set_option maxRecDepth 20000 in
set_option maxHeartbeats 1000000 in
theorem rTimes_any (A A' : Option Addr) (n m c c' : Nat) (xs ys : List Nat) (u v : Nat) (w : World) (hx : Gi w w.heap.size A n xs) (hy : Gi w w.heap.size A' m ys) (mx : Mag xs u) (my : Mag ys v) (hn : n ≤ 1000000) (hm : m ≤ 1000000) :
    Calls Tryz.prog 139 #[.slice A n c, .slice A' m c'] w (MagIPost (u * v) w) := by
  have HX := Lib.hid hx; have HY := Lib.hid hy; have HMX := Lib.hid mx; have HMY := Lib.hid my
  have HXN := Lib.hid hx.1; have HYN := Lib.hid hy.1
  have HPO := Lib.hid (show MagIPost (u * v) w = fun e w' => ∃ A n c xs, e = .returned (.slice A n c) ∧ Gi w' w'.heap.size A n xs ∧ n ≤ c ∧ Mag xs (u * v) ∧ Below w.heap.size w w' from rfl)
  generalize MagIPost (u * v) w = post at *
  clear hx hy mx my
  obtain ⟨w1, hmk, ho1, hb1⟩ := make_i w w.heap.size (n + m) (n + m) ((n : Int) + m) ((n : Int) + m) (by omega) (by omega) (by omega) (by omega) (Nat.le_refl _)
  have HO1 := Lib.hid ho1; clear ho1
  have HT0 := Lib.hid (TOut.start xs ys)
  rw [← HXN.out, ← HYN.out] at HT0
  go_enter Tryz.func139, Tryz.ntmps139
  go_wp2_with fail
  clear hmk
  go_loopw [6] (fun i wr => ∃ (k : Nat) (os : List Nat), k ≤ n ∧ i = .int .i64 k ∧ Hid (TOut xs ys k os) ∧ Hid (Own G1 1 3 wr w.heap.size (.slice (some ⟨w.heap.size, 0, none⟩) (n + m) (n + m)) os) ∧ Below w.heap.size w wr) (fun i _ => n - (intOf i).toNat)
  case atStart => exact ⟨0, _, Nat.zero_le _, rfl, HT0, HO1, hb1⟩
  case round =>
    clear HT0 HO1 hb1
    obtain ⟨i, os0, hi, rfl, HT, HO0, hb0⟩ := hrel
    by_cases hlt : i < n
    · obtain ⟨xb, xo, x, rfl, hxb, hxi, d0⟩ := HX.out.gri hlt
      have hx9 := HMX.out.gs.at_ hxi
      have HXI := Lib.hid hxi; have HD0 := Lib.hid d0; clear hxi d0
      have HZ := Lib.hid (show RT xs ys os0 i x 0 0 os0 from .inl ⟨Nat.zero_le _, TInv.zero HT.out.gs⟩)
      go_wp2_with fail
      go_loopw [7, 8] (fun cy k wr => ∃ (j carry : Nat) (os : List Nat), k = .int .i64 j ∧ cy = .int .i64 carry ∧ carry < 1000000000 ∧ j ≤ m + 1 ∧ Hid (RT xs ys os0 i x j carry os) ∧ Hid (Own G1 1 3 wr w.heap.size (.slice (some ⟨w.heap.size, 0, none⟩) (n + m) (n + m)) os) ∧ Below w.heap.size w wr) (fun _ k _ => m + 1 - (intOf k).toNat)
      case atStart => exact ⟨0, 0, os0, rfl, rfl, by omega, by omega, HZ, HO0, hb0⟩
      case round =>
        clear HZ HO0 hb0
        obtain ⟨j, carry, os, rfl, rfl, hcy, hj, HI, HO, hb⟩ := hrel
        obtain ⟨bb, hbb⟩ : ∃ bb : Bool, bb = decide (j < m ∨ 0 < carry) := ⟨_, rfl⟩
        have HBB := Lib.hid hbb; clear hbb
        go_upto_region 7 with (fail)
        go_cut [29] (fun s wc => s = .bool bb ∧ wc = wr)
        case first =>
          by_cases h1 : j < m
          · have hd : decide (j < m) = true := by simpa using h1
            go_wp2_with fail
            go_meet
            exact ⟨by rw [HBB.out]; simp [h1], rfl⟩
          · have hd : decide (j < m) = false := by simpa using h1
            by_cases h3 : 0 < carry
            · have hd3 : decide (0 < carry) = true := by simpa using h3
              go_wp2_with fail
              go_meet
              exact ⟨by rw [HBB.out]; simp [h3], rfl⟩
            · have hd3 : decide (0 < carry) = false := by simpa using h3
              go_wp2_with fail
              go_meet
              exact ⟨by rw [HBB.out]; simp [h1, h3], rfl⟩
        case rest =>
        obtain ⟨rfl, hwc⟩ := hcut
        obtain ⟨w2, rfl⟩ : ∃ W, W = wc := ⟨_, rfl⟩
        subst hwc
        cases bb with
        | true =>
          have hgo : j < ys.length ∨ 0 < carry := by have := HBB.out; rw [← HYN.out]; simpa using this
          have hjm : j ≤ m := by
            rcases HI.out with ⟨h1, _⟩ | ⟨h1, h2, _⟩
            · rw [HYN.out]; exact h1
            · rcases hgo with h | h <;> omega
          obtain ⟨o, ho⟩ : ∃ o, os[i + j]? = some o := ⟨_, List.getElem?_eq_getElem (by rw [(HI.out.facts HT.out HXI.out).2.1, ← HXN.out, ← HYN.out]; omega)⟩
          have ho9 := (HI.out.facts HT.out HXI.out).1.at_ ho
          have HST := Lib.hid (HI.out.step HT.out HXI.out hx9 HMY.out.gs hgo ho).2
          have hy9 := gAt_lt HMY.out.gs j
          have HGR := Lib.hid (fun W (hb : Below w.heap.size w W) => rGroup_any A' m c' ys j W (HY.out.here hb) (by omega) (by omega))
          generalize gAt ys j = gy at *
          obtain ⟨pj, hpj⟩ : ∃ pj, pj = i + j := ⟨_, rfl⟩
          rw [← hpj] at ho HST
          have hpji : (i : Int) + (j : Int) = (pj : Int) := by omega
          have hpjl : pj < n + m := by omega
          have f1 := HO.out.cellI ho
          have f0 := HO.out.frozen pj
          have d1 := (hb.cell (p := ⟨xb, xo + i, none⟩) hxb).trans HD0.out
          have HOK := Lib.hid ho
          have hp := prod_lt hx9 hy9
          obtain ⟨p, hpe⟩ : ∃ p, p = x * gy := ⟨_, rfl⟩
          rw [← hpe] at hp HST
          have hpi : (x : Int) * (gy : Int) = (p : Int) := by rw [hpe]; simp
          obtain ⟨s1, hs1⟩ : ∃ s1, s1 = o + p := ⟨_, rfl⟩
          obtain ⟨s, hs⟩ : ∃ s, s = s1 + carry := ⟨_, rfl⟩
          have hs1i : (o : Int) + (p : Int) = (s1 : Int) := by omega
          have hsi : (s1 : Int) + (carry : Int) = (s : Int) := by omega
          have hs1l : s1 ≤ 999999999000000000 := by omega
          have hsl : s ≤ 999999999999999999 := by omega
          rw [show o + p + carry = s by omega] at HST
          clear ho hpe hpj hs hs1 hgo HBB
          go_upto_region 9 with (fail)
          have iw0 : IntKind.i64.wrap (pj : Int) = (pj : Int) := IntWalk.i64_in _ (by omega)
          have iw1 : IntKind.i64.wrap (p : Int) = (p : Int) := IntWalk.i64_in _ (by omega)
          have iw2 : IntKind.i64.wrap (s1 : Int) = (s1 : Int) := IntWalk.i64_in _ (by omega)
          have iw3 : IntKind.i64.wrap (s : Int) = (s : Int) := IntWalk.i64_in _ (by omega)
          go_quiet ((go_at_call 181; exact Calls.quiet_of_same ((HGR.out _ (bdN hb _)).mono (fun e w' h => ⟨h.1, h.2.symm⟩))))
          clear iw0 iw1 iw2 iw3
          have f1' : (w2.drewN nq).cell? ⟨w.heap.size, pj, none⟩ = some (.int .i64 o) := f1
          have f0' : (w2.drewN nq).frozen? ⟨w.heap.size, pj, none⟩ = false := f0
          have HO' := Lib.hid (HO.out.drewN nq)
          have hb' := bdN hb nq
          clear f1 f0 d1 hb HO
          generalize w2.drewN nq = w3 at *
          go_wp2_with fail
          go_roundw
          case rel =>
            have h3 := HO'.out.setI (i := pj) (y := s % 1000000000) HOK.out
            rw [show ((s % 1000000000 : Nat) : Int) = (s : Int) % 1000000000 by omega] at h3
            refine ⟨j + 1, s / 1000000000, os.set pj (s % 1000000000), by go_num, by go_num, by omega, by omega, HST, ?_, ?_⟩
            · show Own _ _ _ _ _ _ _
              with_reducible exact h3
            · with_reducible exact (hb'.setCell (Nat.le_refl _) _)
          case measure => simp [intOf]; omega
        | false =>
          have hno : ¬ (j < m ∨ 0 < carry) := by have := HBB.out; simpa using this
          obtain rfl : carry = 0 := by omega
          have HN := Lib.hid (HI.out.done HT.out HXI.out (by rw [← HYN.out]; omega))
          clear hno HBB
          go_wp2_with fail
          go_roundw
          case rel => exact ⟨i + 1, os, by omega, by go_num, HN, HO, hb⟩
          case measure => simp [intOf]; omega
    · obtain rfl : i = n := by omega
      have HV := Lib.hid (show gv os0 = u * v by have := HT.out.val; rw [List.take_of_length_le (by rw [← HXN.out]; omega), HMX.out.val, HMY.out.val] at this; exact this)
      have HTR := Lib.hid (rTrim_any (some ⟨w.heap.size, 0, none⟩) (i + m) (i + m) os0 wr (HO0.out.sl G1_len) (Nat.le_refl _) (by omega))
      go_wp2_with fail
      (with_reducible refine HTR.out.mono ?_)
      rintro e w3 ⟨j, rfl, hj, hgv, hnz, rfl⟩
      go_wp2_with fail
      rw [HPO.out]
      exact ⟨_, j, _, os0.take j, rfl, (HO0.out.sl G1_len).take hj, hj, ⟨HT.out.gs.take j, hnz, by rw [hgv]; exact HV.out⟩, hb0⟩
end Go.Proofs.YtpnncoinlopndaaGreatDoor

namespace Go.Proofs.YtpnncoinlopndaaGreatDoor
open Go.RowKit Go.Shelf
structure RMInv (xs ys : List Nat) (i borrow : Nat) (os : List Nat) : Prop where
  len : os.length = i
  val : gv os + gv (ys.take i) = gv (xs.take i) + 1000000000 ^ i * borrow
  gs : Gs os
  one : borrow ≤ 1
theorem RMInv.zero (xs ys : List Nat) : RMInv xs ys 0 0 [] := ⟨rfl, by simp [gv], Gs.nil, by omega⟩
theorem RMInv.step {xs ys os : List Nat} {i borrow x d b' : Nat} (h : RMInv xs ys i borrow os) (hx : xs[i]? = some x) (hd : d < 1000000000) (hb : b' ≤ 1) (he : d + (borrow + gAt ys i) = x + 1000000000 * b') : RMInv xs ys (i + 1) b' (os ++ [d]) := by
  refine ⟨by rw [List.length_append, h.len]; rfl, ?_, h.gs.snoc hd, hb⟩
  rw [gv_snoc, h.len, gv_take xs i x hx, gv_take_g ys i]
  have hv := h.val
  have e := congrArg (fun t => 1000000000 ^ i * t) he
  simp only [Nat.mul_add] at e
  rw [Nat.pow_succ, Nat.mul_assoc]
  omega
theorem RMInv.done {xs ys os : List Nat} {borrow u v : Nat} (h : RMInv xs ys xs.length borrow os) (hx : gv xs = u) (hy : gv ys = v) (hl : ys.length ≤ xs.length) (huv : v ≤ u) : gv os = u - v := by
  have hv := h.val
  rw [List.take_length, List.take_of_length_le hl, hx, hy] at hv
  have h1 := h.one
  have hlt := gv_lt h.gs
  rw [h.len] at hlt
  have hb0 : borrow = 0 := by
    by_cases hb : borrow = 0
    · exact hb
    · have : borrow = 1 := by omega
      rw [this, Nat.mul_one] at hv
      omega
  rw [hb0, Nat.mul_zero] at hv
  omega
set_option maxRecDepth 20000 in
set_option maxHeartbeats 1000000 in
theorem rMinus_any (A A' : Option Addr) (n m c c' : Nat) (xs ys : List Nat) (u v : Nat) (w : World) (hx : Gi w w.heap.size A n xs) (hy : Gi w w.heap.size A' m ys) (mx : Mag xs u) (my : Mag ys v) (hn : n ≤ 1000000) (hm : m ≤ 1000000) (huv : v ≤ u) :
    Calls Tryz.prog 143 #[.slice A n c, .slice A' m c'] w (MagIPost (u - v) w) := by
  have hmn : m ≤ n := by
    rcases Nat.lt_or_ge n m with h | h
    · have := mag_short mx my (by rw [← hx.1, ← hy.1]; exact h); omega
    · exact h
  have HX := Lib.hid hx; have HY := Lib.hid hy; have HMX := Lib.hid mx; have HMY := Lib.hid my; have HUV := Lib.hid huv
  have HXN := Lib.hid hx.1; have HYN := Lib.hid hy.1
  have HPO := Lib.hid (show MagIPost (u - v) w = fun e w' => ∃ A n c xs, e = .returned (.slice A n c) ∧ Gi w' w'.heap.size A n xs ∧ n ≤ c ∧ Mag xs (u - v) ∧ Below w.heap.size w w' from rfl)
  generalize MagIPost (u - v) w = post at *
  clear hx hy mx my huv
  have HO0 := Lib.hid (Own.lit (enc := G1) (k := 1) (base := w.heap.size) w #[] 3 [] rfl G1_len (Nat.le_refl _) (by simp))
  go_enter Tryz.func143, Tryz.ntmps143
  go_wp2_with fail
  go_loopw [5, 6, 7] (fun o bo i wr => ∃ (k borrow co : Nat) (Ao : Option Addr) (os : List Nat), i = .int .i64 k ∧ bo = .int .i64 borrow ∧ o = .slice Ao k co ∧ borrow ≤ 1 ∧ k ≤ n ∧ Hid (RMInv xs ys k borrow os) ∧ Hid (Own G1 1 3 wr w.heap.size (.slice Ao k co) os) ∧ Below w.heap.size w wr) (fun _ _ i _ => n - (intOf i).toNat)
  case atStart => exact ⟨0, 0, 0, _, [], rfl, rfl, rfl, by omega, by omega, RMInv.zero xs ys, HO0, (Below.refl _ _).alloc (Nat.le_refl _) _⟩
  case round =>
    clear HO0
    obtain ⟨k, borrow, co, Ao, os, rfl, rfl, rfl, hbo, hk, HI, HO, hb⟩ := hrel
    by_cases hlt : k < n
    · obtain ⟨xb, xo, x, rfl, hxb, hxk, d0⟩ := HX.out.gri hlt
      have d1 := (hb.cell (p := ⟨xb, xo + k, none⟩) hxb).trans d0
      have hx9 := HMX.out.gs.at_ hxk
      have hy9 := gAt_lt HMY.out.gs k
      have HGR := Lib.hid (fun W (hb : Below w.heap.size w W) => rGroup_any A' m c' ys k W (HY.out.here hb) (by omega) (by omega))
      have HST := Lib.hid (fun d b' h1 h2 h3 => HI.out.step (d := d) (b' := b') hxk h1 h2 h3)
      generalize gAt ys k = gy at *
      have HIL := Lib.hid HI.out.len
      obtain ⟨q1, q2, q3, hf⟩ := HO.out.facts; clear q1 q2 q3
      have HF := Lib.hid hf; clear hf hxk d0
      obtain ⟨t1, ht1⟩ : ∃ t1 : Int, (x : Int) - (gy : Int) = t1 := ⟨_, rfl⟩
      obtain ⟨t, ht⟩ : ∃ t : Int, t1 - (borrow : Int) = t := ⟨_, rfl⟩
      have ht1l : -1000000000 ≤ t1 ∧ t1 ≤ 1000000000 := by omega
      have htl : -1000000001 ≤ t ∧ t ≤ 1000000000 := by omega
      obtain ⟨ht1a, ht1b⟩ := ht1l
      obtain ⟨hta, htb⟩ := htl
      have HT := Lib.hid (show t = (x : Int) - gy - borrow by omega)
      go_upto_region 6 with (fail)
      have iw1 : IntKind.i64.wrap t1 = t1 := IntWalk.i64_in _ (by omega)
      have iw2 : IntKind.i64.wrap t = t := IntWalk.i64_in _ (by omega)
      go_quiet ((go_at_call 181; exact Calls.quiet_of_same ((HGR.out _ (bdN hb _)).mono (fun e w' h => ⟨h.1, h.2.symm⟩))))
      clear iw1 iw2 ht ht1 d1
      have HO' := Lib.hid (HO.out.drewN nq)
      have hb' := bdN hb nq
      clear hb HO
      generalize wr.drewN nq = w3 at *
      obtain ⟨sr, b', hsr9, hb1', hcase⟩ : ∃ sr b' : Nat, sr < 1000000000 ∧ b' ≤ 1 ∧ ((t < 0 ∧ b' = 1 ∧ (sr : Int) = t + 1000000000) ∨ (0 ≤ t ∧ b' = 0 ∧ (sr : Int) = t)) := by
        have := HT.out
        by_cases h0 : t < 0
        · exact ⟨(t + 1000000000).toNat, 1, by omega, by omega, .inl ⟨h0, rfl, by omega⟩⟩
        · exact ⟨t.toNat, 0, by omega, by omega, .inr ⟨by omega, rfl, by omega⟩⟩
      have HN := Lib.hid (HST.out sr b' hsr9 hb1' (by have := HT.out; rcases hcase with ⟨h1, h2, h3⟩ | ⟨h1, h2, h3⟩ <;> omega))
      rcases hcase with ⟨h1, h2, h3⟩ | ⟨h1, h2, h3⟩
      · subst h2
        have h3' : t + 1000000000 = (sr : Int) := h3.symm
        clear h3
        go_wp2_with (at_builtin; refine wpList_app _ rfl (.tmp 30) (.tmp 32) _ rfl elemInts G1_len G1_one (base := w.heap.size) (.slice Ao k co) os rfl (HO'.out.alloc _) _ _ 1 1 [sr] rfl (Sl.lit w3 #[.int .i64 sr] 3 [sr] rfl G1_len) (by rw [HIL.out]; omega) (by have := hb'.size; simp; omega) ?_; intro A4 c4 w4 ho4 hg4 hat4; rw [HIL.out] at ho4 ⊢)
        have hb4 : Below w.heap.size w w4 := below_grown (hb'.alloc hb'.size _) hg4 (by have := hb'.size; simp; omega) (fun g' e => by
          rcases HF.out with ⟨rfl, _⟩ | ⟨g, rfl, hg1, hg2⟩
          · simp [Value.ownBlock] at e
          · simp [Value.ownBlock] at e; omega)
        have HO4 := Lib.hid ho4; clear ho4 hg4 hat4
        go_roundw
        case rel => exact ⟨k + 1, 1, c4, A4, os ++ [sr], by go_num, rfl, rfl, by omega, by omega, HN, HO4, hb4⟩
        case measure => simp [intOf]; omega
      · subst h2
        subst h3
        have hdn : decide ((sr : Int) < 0) = false := by simp
        go_wp2_with (at_builtin; refine wpList_app _ rfl (.tmp 30) (.tmp 32) _ rfl elemInts G1_len G1_one (base := w.heap.size) (.slice Ao k co) os rfl (HO'.out.alloc _) _ _ 1 1 [sr] rfl (Sl.lit w3 #[.int .i64 sr] 3 [sr] rfl G1_len) (by rw [HIL.out]; omega) (by have := hb'.size; simp; omega) ?_; intro A4 c4 w4 ho4 hg4 hat4; rw [HIL.out] at ho4 ⊢)
        have hb4 : Below w.heap.size w w4 := below_grown (hb'.alloc hb'.size _) hg4 (by have := hb'.size; simp; omega) (fun g' e => by
          rcases HF.out with ⟨rfl, _⟩ | ⟨g, rfl, hg1, hg2⟩
          · simp [Value.ownBlock] at e
          · simp [Value.ownBlock] at e; omega)
        have HO4 := Lib.hid ho4; clear ho4 hg4 hat4
        go_roundw
        case rel => exact ⟨k + 1, 0, c4, A4, os ++ [sr], by go_num, rfl, rfl, by omega, by omega, HN, HO4, hb4⟩
        case measure => simp [intOf]; omega
    · obtain rfl : k = n := by omega
      have HV := Lib.hid (RMInv.done (by have := HI.out; rw [HXN.out] at this; exact this) HMX.out.val HMY.out.val (by rw [← HXN.out, ← HYN.out]; omega) HUV.out)
      have HOF := Lib.hid HO.out.facts
      have HTR := Lib.hid (rTrim_any Ao k co os wr (HO.out.sl G1_len) (by have := HOF.out.2.1; have := HOF.out.1; omega) (by omega))
      go_wp2_with fail
      (with_reducible refine HTR.out.mono ?_)
      rintro e w3 ⟨j, rfl, hj, hgv, hnz, rfl⟩
      go_wp2_with fail
      rw [HPO.out]
      exact ⟨Ao, j, co, os.take j, rfl, (HO.out.sl G1_len).take hj, by have := HOF.out.2.1; have := HOF.out.1; omega, ⟨HI.out.gs.take j, hnz, by rw [hgv]; exact HV.out⟩, hb⟩
end Go.Proofs.YtpnncoinlopndaaGreatDoor

