/- Contract of the reference's minus. -/
import Derived.Test.YtaiikjgoofefgaaGreatDoorR4qG1s
namespace Go.Proofs.YtaiikjgoofefgaaGreatDoor
open Go.RowKit Go.Shelf

structure RMInv (xs ys : List Nat) (i borrow : Nat) (os : List Nat) : Prop where
  len : os.length = i
  val : gv os + gv (ys.take i) = gv (xs.take i) + 1000000000 ^ i * borrow
  gs : Gs os
  one : borrow ≤ 1
theorem RMInv.zero (xs ys : List Nat) : RMInv xs ys 0 0 [] := ⟨rfl, by simp [gv], Gs.nil, by omega⟩
theorem RMInv.step {xs ys os : List Nat} {i borrow x d b' : Nat} (h : RMInv xs ys i borrow os) (hx : xs[i]? = some x) (hd : d < 1000000000) (hb : b' ≤ 1) (he : d + (borrow + gAt ys i) = x + 1000000000 * b') : RMInv xs ys (i + 1) b' (os ++ [d]) := by
  refine ⟨by rw [List.length_append, h.len]; rfl, ?_, h.gs.snoc hd, hb⟩
  rw [gv_snoc, h.len, gv_take xs i x hx, gv_take_g ys i]
  have hv := h.val
  have e := congrArg (fun t => 1000000000 ^ i * t) he
  simp only [Nat.mul_add] at e
  rw [Nat.pow_succ, Nat.mul_assoc]
  omega
theorem RMInv.done {xs ys os : List Nat} {borrow u v : Nat} (h : RMInv xs ys xs.length borrow os) (hx : gv xs = u) (hy : gv ys = v) (hl : ys.length ≤ xs.length) (huv : v ≤ u) : gv os = u - v := by
  have hv := h.val
  rw [List.take_length, List.take_of_length_le hl, hx, hy] at hv
  have h1 := h.one
  have hlt := gv_lt h.gs
  rw [h.len] at hlt
  have hb0 : borrow = 0 := by
    by_cases hb : borrow = 0
    · exact hb
    · have : borrow = 1 := by omega
      rw [this, Nat.mul_one] at hv
      omega
  rw [hb0, Nat.mul_zero] at hv
  omega
set_option maxRecDepth 20000 in
set_option maxHeartbeats 1000000 in
theorem rMinus_any (A A' : Option Addr) (n m c c' : Nat) (xs ys : List Nat) (u v : Nat) (w : World) (hx : Gi w w.heap.size A n xs) (hy : Gi w w.heap.size A' m ys) (mx : Mag xs u) (my : Mag ys v) (hn : n ≤ 1000000) (hm : m ≤ 1000000) (huv : v ≤ u) :
    Calls Tryz.prog 80 #[.slice A n c, .slice A' m c'] w (MagIPost (u - v) w) := by
  have hmn : m ≤ n := by
    rcases Nat.lt_or_ge n m with h | h
    · have := mag_short mx my (by rw [← hx.1, ← hy.1]; exact h); omega
    · exact h
  have HX := Lib.hid hx; have HY := Lib.hid hy; have HMX := Lib.hid mx; have HMY := Lib.hid my; have HUV := Lib.hid huv
  have HXN := Lib.hid hx.1; have HYN := Lib.hid hy.1
  have HPO := Lib.hid (show MagIPost (u - v) w = fun e w' => ∃ A n c xs, e = .returned (.slice A n c) ∧ Gi w' w'.heap.size A n xs ∧ n ≤ c ∧ Mag xs (u - v) ∧ Below w.heap.size w w' from rfl)
  generalize MagIPost (u - v) w = post at *
  clear hx hy mx my huv
  have HO0 := Lib.hid (Own.lit (enc := G1) (k := 1) (base := w.heap.size) w #[] 3 [] rfl G1_len (Nat.le_refl _) (by simp))
  go_enter Tryz.func80, Tryz.ntmps80
  go_wp2_with fail
  go_loopw [5, 6, 7] (fun o bo i wr => ∃ (k borrow co : Nat) (Ao : Option Addr) (os : List Nat), i = .int .i64 k ∧ bo = .int .i64 borrow ∧ o = .slice Ao k co ∧ borrow ≤ 1 ∧ k ≤ n ∧ Hid (RMInv xs ys k borrow os) ∧ Hid (Own G1 1 3 wr w.heap.size (.slice Ao k co) os) ∧ Below w.heap.size w wr) (fun _ _ i _ => n - (intOf i).toNat)
  case atStart => exact ⟨0, 0, 0, _, [], rfl, rfl, rfl, by omega, by omega, RMInv.zero xs ys, HO0, (Below.refl _ _).alloc (Nat.le_refl _) _⟩
  case round =>
    clear HO0
    obtain ⟨k, borrow, co, Ao, os, rfl, rfl, rfl, hbo, hk, HI, HO, hb⟩ := hrel
    by_cases hlt : k < n
    · obtain ⟨xb, xo, x, rfl, hxb, hxk, d0⟩ := HX.out.gri hlt
      have d1 := (hb.cell (p := ⟨xb, xo + k, none⟩) hxb).trans d0
      have hx9 := HMX.out.gs.at_ hxk
      have hy9 := gAt_lt HMY.out.gs k
      have HGR := Lib.hid (fun W (hb : Below w.heap.size w W) => rGroup_any A' m c' ys k W (HY.out.here hb) (by omega) (by omega))
      have HST := Lib.hid (fun d b' h1 h2 h3 => HI.out.step (d := d) (b' := b') hxk h1 h2 h3)
      generalize gAt ys k = gy at *
      have HIL := Lib.hid HI.out.len
      obtain ⟨q1, q2, q3, hf⟩ := HO.out.facts; clear q1 q2 q3
      have HF := Lib.hid hf; clear hf hxk d0
      obtain ⟨t1, ht1⟩ : ∃ t1 : Int, (x : Int) - (gy : Int) = t1 := ⟨_, rfl⟩
      obtain ⟨t, ht⟩ : ∃ t : Int, t1 - (borrow : Int) = t := ⟨_, rfl⟩
      have ht1l : -1000000000 ≤ t1 ∧ t1 ≤ 1000000000 := by omega
      have htl : -1000000001 ≤ t ∧ t ≤ 1000000000 := by omega
      obtain ⟨ht1a, ht1b⟩ := ht1l
      obtain ⟨hta, htb⟩ := htl
      have HT := Lib.hid (show t = (x : Int) - gy - borrow by omega)
      go_upto_region 6 with (fail)
      have iw1 : IntKind.i64.wrap t1 = t1 := IntWalk.i64_in _ (by omega)
      have iw2 : IntKind.i64.wrap t = t := IntWalk.i64_in _ (by omega)
      go_quiet ((go_at_call 76; exact Calls.quiet_of_same ((HGR.out _ (bdN hb _)).mono (fun e w' h => ⟨h.1, h.2.symm⟩))))
      clear iw1 iw2 ht ht1 d1
      have HO' := Lib.hid (HO.out.drewN nq)
      have hb' := bdN hb nq
      clear hb HO
      generalize wr.drewN nq = w3 at *
      obtain ⟨sr, b', hsr9, hb1', hcase⟩ : ∃ sr b' : Nat, sr < 1000000000 ∧ b' ≤ 1 ∧ ((t < 0 ∧ b' = 1 ∧ (sr : Int) = t + 1000000000) ∨ (0 ≤ t ∧ b' = 0 ∧ (sr : Int) = t)) := by
        have := HT.out
        by_cases h0 : t < 0
        · exact ⟨(t + 1000000000).toNat, 1, by omega, by omega, .inl ⟨h0, rfl, by omega⟩⟩
        · exact ⟨t.toNat, 0, by omega, by omega, .inr ⟨by omega, rfl, by omega⟩⟩
      have HN := Lib.hid (HST.out sr b' hsr9 hb1' (by have := HT.out; rcases hcase with ⟨h1, h2, h3⟩ | ⟨h1, h2, h3⟩ <;> omega))
      rcases hcase with ⟨h1, h2, h3⟩ | ⟨h1, h2, h3⟩
      · subst h2
        have h3' : t + 1000000000 = (sr : Int) := h3.symm
        clear h3
        go_wp2_with (at_builtin; refine wpList_app _ rfl (.tmp 30) (.tmp 32) _ rfl elemInts G1_len G1_one (base := w.heap.size) (.slice Ao k co) os rfl (HO'.out.alloc _) _ _ 1 1 [sr] rfl (Sl.lit w3 #[.int .i64 sr] 3 [sr] rfl G1_len) (by rw [HIL.out]; omega) (by have := hb'.size; simp; omega) ?_; intro A4 c4 w4 ho4 hg4 hat4; rw [HIL.out] at ho4 ⊢)
        have hb4 : Below w.heap.size w w4 := below_grown (hb'.alloc hb'.size _) hg4 (by have := hb'.size; simp; omega) (fun g' e => by
          rcases HF.out with ⟨rfl, _⟩ | ⟨g, rfl, hg1, hg2⟩
          · simp [Value.ownBlock] at e
          · simp [Value.ownBlock] at e; omega)
        have HO4 := Lib.hid ho4; clear ho4 hg4 hat4
        go_roundw
        case rel => exact ⟨k + 1, 1, c4, A4, os ++ [sr], by go_num, rfl, rfl, by omega, by omega, HN, HO4, hb4⟩
        case measure => simp [intOf]; omega
      · subst h2
        subst h3
        have hdn : decide ((sr : Int) < 0) = false := by simp
        go_wp2_with (at_builtin; refine wpList_app _ rfl (.tmp 30) (.tmp 32) _ rfl elemInts G1_len G1_one (base := w.heap.size) (.slice Ao k co) os rfl (HO'.out.alloc _) _ _ 1 1 [sr] rfl (Sl.lit w3 #[.int .i64 sr] 3 [sr] rfl G1_len) (by rw [HIL.out]; omega) (by have := hb'.size; simp; omega) ?_; intro A4 c4 w4 ho4 hg4 hat4; rw [HIL.out] at ho4 ⊢)
        have hb4 : Below w.heap.size w w4 := below_grown (hb'.alloc hb'.size _) hg4 (by have := hb'.size; simp; omega) (fun g' e => by
          rcases HF.out with ⟨rfl, _⟩ | ⟨g, rfl, hg1, hg2⟩
          · simp [Value.ownBlock] at e
          · simp [Value.ownBlock] at e; omega)
        have HO4 := Lib.hid ho4; clear ho4 hg4 hat4
        go_roundw
        case rel => exact ⟨k + 1, 0, c4, A4, os ++ [sr], by go_num, rfl, rfl, by omega, by omega, HN, HO4, hb4⟩
        case measure => simp [intOf]; omega
    · obtain rfl : k = n := by omega
      have HV := Lib.hid (RMInv.done (by have := HI.out; rw [HXN.out] at this; exact this) HMX.out.val HMY.out.val (by rw [← HXN.out, ← HYN.out]; omega) HUV.out)
      have HOF := Lib.hid HO.out.facts
      have HTR := Lib.hid (rTrim_any Ao k co os wr (HO.out.sl G1_len) (by have := HOF.out.2.1; have := HOF.out.1; omega) (by omega))
      go_wp2_with fail
      (with_reducible refine HTR.out.mono ?_)
      rintro e w3 ⟨j, rfl, hj, hgv, hnz, rfl⟩
      go_wp2_with fail
      rw [HPO.out]
      exact ⟨Ao, j, co, os.take j, rfl, (HO.out.sl G1_len).take hj, by have := HOF.out.2.1; have := HOF.out.1; omega, ⟨HI.out.gs.take j, hnz, by rw [hgv]; exact HV.out⟩, hb⟩
end Go.Proofs.YtaiikjgoofefgaaGreatDoor
