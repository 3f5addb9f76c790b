/- Merged texts: R6, R8. -/
import Derived.Test.YtpnncoinlopndaaGreatDoorQGTn23
import Derived.Test.YtpnncoinlopndaaGreatDoorQGTn22
namespace Go.Proofs.YtpnncoinlopndaaGreatDoor
open Go.RowKit Go.Shelf
def DivIPost (q r : Nat) (w : World) (e : Ending) (w' : World) : Prop :=
  ∃ A1 n1 c1 qs A2 n2 c2 rs, e = .returned (.tuple #[.slice A1 n1 c1, .slice A2 n2 c2]) ∧ Gi w' w'.heap.size A1 n1 qs ∧ n1 ≤ c1 ∧ Mag qs q ∧ Gi w' w'.heap.size A2 n2 rs ∧ n2 ≤ c2 ∧ Mag rs r ∧ Below w.heap.size w w'
structure RDSt (w : World) (gq n : Nat) (qs : List Nat) (Ar : Option Addr) (nr cr : Nat) (rs : List Nat) (R : Nat) (wr : World) : Prop where
  q : Own G1 1 3 wr w.heap.size (.slice (some ⟨gq, 0, none⟩) n n) qs
  g : Gi wr wr.heap.size Ar nr rs
  m : Mag rs R
  c : nr ≤ cr
  l : nr ≤ 200000
  bl : Below w.heap.size w wr
theorem RDSt.here {w : World} {gq n : Nat} {qs : List Nat} {Ar : Option Addr} {nr cr : Nat} {rs : List Nat} {R : Nat} {W W' : World} (h : RDSt w gq n qs Ar nr cr rs R W) (hb : Below W.heap.size W W') : RDSt w gq n qs Ar nr cr rs R W' :=
  ⟨h.q.below hb, h.g.here hb, h.m, h.c, h.l, h.bl.trans (hb.mono h.bl.size)⟩
theorem SgInv.step' {xs os : List Nat} {d i rest x : Nat} (h : SgInv xs d (i + 1) rest os) (hx : xs[i]? = some x) (hgx : Gs xs) :
    SgInv xs d i ((rest * 1000000000 + x) % d) (os.set i ((rest * 1000000000 + x) / d)) ∧ (rest * 1000000000 + x) / d < 1000000000 := by
  have hi := (List.getElem?_eq_some_iff.1 hx).1
  have hio : i < os.length := by rw [h.len]; exact hi
  have hlt := h.lt
  have hx9 := hgx.at_ hx
  have hq : (rest * 1000000000 + x) / d < 1000000000 := by
    rw [Nat.div_lt_iff_lt_mul (by omega)]
    have : (rest + 1) * 1000000000 ≤ d * 1000000000 := Nat.mul_le_mul_right _ hlt
    rw [Nat.mul_comm d] at this
    omega
  have hm := Nat.mod_lt (rest * 1000000000 + x) (show 0 < d by omega)
  have hdm := Nat.div_add_mod (rest * 1000000000 + x) d
  refine ⟨⟨by rw [List.length_set]; exact h.len, ?_, hm, ?_⟩, hq⟩
  · rw [drop_set_here hio, gv_drop xs i x hx, h.val, gv, Nat.mul_add, Nat.mul_add]
    rw [Nat.mul_left_comm d 1000000000]
    omega
  · rw [drop_set_here hio]
    intro y hy
    rcases List.mem_cons.1 hy with h1 | h1
    · rw [h1]; exact hq
    · exact h.gs y h1
theorem Mag.lt_len {xs : List Nat} {u : Nat} (h : Mag xs u) : u < 1000000000 ^ xs.length := by
  have := gv_lt h.gs
  rwa [h.val] at this
theorem Gi.far {w : World} {B n : Nat} {A : Option Addr} {xs : List Nat} (h : Gi w B A n xs) {p : Addr} (hp : ∀ a, A = some a → a.block ≠ p.block) (u : Value) : Gi (w.setCell p u) B A n xs :=
  ⟨h.1, fun hn => by
    obtain ⟨b, off, e, hb, hc⟩ := h.2 hn
    refine ⟨b, off, e, hb, fun i x hi j v hj => ?_⟩
    rw [World.cell?_of_block (Below.heap_setCell w p u b (hp _ e))]
    exact hc i x hi j v hj⟩
theorem rest_lt' {R v x P : Nat} (h1 : v < P) (h2 : R < v) (hx : x < 1000000000) : R * 1000000000 + x < P * 1000000000 := by omega
theorem rest_lt {R v x m : Nat} (h1 : v < 1000000000 ^ m) (h2 : R < v) (hx : x < 1000000000) : R * 1000000000 + x < 1000000000 ^ (m + 1) := by
  rw [Nat.pow_succ]
  exact rest_lt' h1 h2 hx
theorem Mag.one' {s : Nat} (h0 : 1 ≤ s) (h9 : s < 1000000000) : Mag [s] s :=
  ⟨fun x hx => by simp at hx; omega, by unfold Nz; simp; omega, by simp [gv]⟩
set_option maxRecDepth 100000 in
set_option maxHeartbeats 2000000 in
theorem rDivide_any (A A' : Option Addr) (n m c c' : Nat) (xs ys : List Nat) (u v : Nat) (w : World) (hx : Gi w w.heap.size A n xs) (hy : Gi w w.heap.size A' m ys) (mx : Mag xs u) (my : Mag ys v) (hn : n ≤ 100000) (hm : m ≤ 100000) (hv : 0 < v) :
    Calls Tryz.prog 156 #[.slice A n c, .slice A' m c'] w (DivIPost (u / v) (u % v) w) := by
  have HX := Lib.hid hx; have HY := Lib.hid hy; have HMX := Lib.hid mx; have HMY := Lib.hid my
  have HXN := Lib.hid hx.1; have HYN := Lib.hid hy.1
  have HPO := Lib.hid (show DivIPost (u / v) (u % v) w = fun e w' => ∃ A1 n1 c1 qs A2 n2 c2 rs, e = .returned (.tuple #[.slice A1 n1 c1, .slice A2 n2 c2]) ∧ Gi w' w'.heap.size A1 n1 qs ∧ n1 ≤ c1 ∧ Mag qs (u / v) ∧ Gi w' w'.heap.size A2 n2 rs ∧ n2 ≤ c2 ∧ Mag rs (u % v) ∧ Below w.heap.size w w' from rfl)
  generalize DivIPost (u / v) (u % v) w = post at *
  clear hx hy mx my
  obtain ⟨w1, hmk, ho1, hb1⟩ := make_i w w.heap.size n n (n : Int) (n : Int) rfl rfl (by omega) (by omega) (Nat.le_refl _)
  have HO1 := Lib.hid (ho1.alloc (.cells #[] 3)); clear ho1
  have HT0 := Lib.hid (SgInv.start xs v hv)
  rw [← HXN.out] at HT0
  have HS0 := Lib.hid (show RDSt w w.heap.size n (List.replicate n 0) (some ⟨w1.heap.size, 0, none⟩) 0 0 [] 0 (w1.alloc (.cells #[] 3)) from ⟨HO1.out, Sl.nil, Mag.zero, Nat.le_refl _, by omega, hb1.alloc hb1.size _⟩)
  go_enter Tryz.func156, Tryz.ntmps156
  go_wp2_with fail
  clear hmk HO1
  go_loopw [7, 8] (fun r i wr => ∃ (k nr cr R : Nat) (ii : Int) (Ar : Option Addr) (rs qs : List Nat), i = .int .i64 ii ∧ Hid (ii = (k : Int) - 1) ∧ k ≤ n ∧ r = .slice Ar nr cr ∧ Hid (SgInv xs v k R qs) ∧ Hid (RDSt w w.heap.size n qs Ar nr cr rs R wr)) (fun _ i _ => (intOf i + 1).toNat)
  case atStart => exact ⟨n, 0, 0, 0, _, _, [], _, rfl, by show _ = _; rfl, Nat.le_refl _, rfl, HT0, HS0⟩
  case round =>
    clear HT0 HS0 hb1
    obtain ⟨k, nr, cr, R, ii, Ar, rs, qs, rfl, HII, hk, rfl, HI, HST⟩ := hrel
    by_cases hk0 : k = 0
    · subst hk0
      have hi0 : ii < 0 := by have := HII.out; omega
      have HDN := Lib.hid (HI.out.done HMX.out.val)
      have HTR := Lib.hid (rTrim_any (some ⟨w.heap.size, 0, none⟩) n n qs wr (HST.out.q.sl G1_len) (Nat.le_refl _) (by omega))
      go_wp2_with fail
      (with_reducible refine HTR.out.mono ?_)
      rintro e w3 ⟨j, rfl, hj, hgv, hnz, rfl⟩
      go_wp2_with fail
      rw [HPO.out]
      exact ⟨_, j, _, qs.take j, Ar, nr, cr, rs, rfl, (HST.out.q.sl G1_len).take hj, hj, ⟨HDN.out.1.take j, hnz, by rw [hgv]; exact HDN.out.2.1⟩, HST.out.g, HST.out.c, by rw [← HDN.out.2.2]; exact HST.out.m, HST.out.bl⟩
    · obtain ⟨i, rfl⟩ : ∃ i, k = i + 1 := ⟨k - 1, by omega⟩
      obtain rfl : ii = (i : Int) := by have := HII.out; omega
      obtain ⟨xb, xo, x, rfl, hxb, hxi, d0⟩ := HX.out.gri (i := i) (by omega)
      have d1 := (HST.out.bl.cell (p := ⟨xb, xo + i, none⟩) hxb).trans d0
      have hx9 := HMX.out.gs.at_ hxi
      have HSS := Lib.hid (HI.out.step' hxi HMX.out.gs)
      have HRV := Lib.hid HI.out.lt
      clear hxi d0
      have HRN := Lib.hid HST.out.g.1
      have hnr := HST.out.l
      go_wp2_with (at_builtin; refine wpList_app _ rfl (.tmp 27) (.tmp 28) _ rfl elemInts G1_len G1_one (base := wr.heap.size) (.slice (some ⟨wr.heap.size, 0, none⟩) 1 1) [x] rfl (Own.lit wr #[.int .i64 x] 3 [x] rfl G1_len (Nat.le_refl _) (by simp [maxLen])) _ _ nr cr rs rfl (HST.out.g.alloc (Nat.le_refl _) _) (by simp; omega) (by simp) ?_; intro A4 c4 w4 ho4 hg4 hat4)
      have hbw4 : Below wr.heap.size wr w4 := below_grown ((Below.refl _ wr).alloc (Nat.le_refl _) _) hg4 (by simp) (fun g' e => by simp [Value.ownBlock] at e; omega)
      simp only [List.length_singleton] at ho4
      have HTR := Lib.hid (rTrim_any A4 (1 + nr) c4 ([x] ++ rs) w4 (ho4.sl G1_len) (by have h1 := ho4.facts.2.1; have h2 := ho4.facts.1; omega) (by omega))
      have HO4 := Lib.hid ho4; clear ho4 hg4 hat4 d1
      (with_reducible refine HTR.out.mono ?_)
      rintro e w5 ⟨j, rfl, hj, hgv, hnz, rfl⟩
      have hS4 := HST.out.here hbw4
      have hR' : gv ([x] ++ rs) = R * 1000000000 + x := by
        show x + 1000000000 * gv rs = _
        rw [HST.out.m.val]; omega
      obtain ⟨R', hR'e⟩ : ∃ R', R' = R * 1000000000 + x := ⟨_, rfl⟩
      rw [← hR'e] at HSS hR'
      have HM5 := Lib.hid (show Mag (([x] ++ rs).take j) R' from ⟨Gs.take (fun z hz => by
        rcases List.mem_append.1 hz with h1 | h1
        · simp at h1; omega
        · exact HST.out.m.gs z h1) j, hnz, by rw [hgv]; exact hR'⟩)
      have HG5 := Lib.hid ((HO4.out.sl G1_len).take hj)
      have HJ := Lib.hid (show j ≤ m + 1 by
        rw [HG5.out.1]
        refine HM5.out.len ?_
        have h1 := HMY.out.lt_len
        rw [← HYN.out] at h1
        rw [hR'e]
        exact rest_lt h1 HRV.out hx9)
      have HS5 := Lib.hid (show RDSt w w.heap.size n qs A4 j c4 (([x] ++ rs).take j) R' w4 from ⟨hS4.q, HG5.out, HM5.out, by have h1 := HO4.out.facts.2.1; have h2 := HO4.out.facts.1; omega, by have := HJ.out; omega, hS4.bl⟩)
      have HNE := Lib.hid (show ∀ a, A4 = some a → a.block ≠ w.heap.size by
        intro a ha
        have h1 : w.heap.size < wr.heap.size := by
          rcases HST.out.q.facts.2.2.2 with ⟨h, _⟩ | ⟨g, h, _, h2⟩
          · cases h
          · injection h with h; injection h with h; omega
        rcases HO4.out.facts.2.2.2 with ⟨h, _⟩ | ⟨g, h, h2, _⟩
        · rw [h] at ha; cases ha
        · rw [h] at ha; injection ha with ha; rw [← ha]; simp only; omega)
      clear hS4 hR' hR'e hgv hnz HM5 HG5 HO4 HTR HST HRN hnr hj
      generalize ([x] ++ rs).take j = rs' at *
      obtain ⟨q, hq⟩ : ∃ q, q = R' / v := ⟨_, rfl⟩
      rw [← hq] at HSS
      have HQ := Lib.hid hq; clear hq
      have hq9 := HSS.out.2
      go_wp2_with fail
      go_loopw [9, 10] (fun lo hi wr => ∃ l h : Nat, lo = .int .i64 l ∧ hi = .int .i64 h ∧ h ≤ 999999999 ∧ l ≤ h ∧ Hid (l ≤ q ∧ q ≤ h) ∧ Hid (RDSt w w.heap.size n qs A4 j c4 rs' R' wr)) (fun lo hi _ => (intOf hi).toNat - (intOf lo).toNat)
      case atStart => exact ⟨0, 999999999, rfl, rfl, by omega, by omega, ⟨Nat.zero_le _, by omega⟩, HS5⟩
      case round =>
        clear HS5 hbw4
        obtain ⟨l, h, rfl, rfl, hh, hlh, HLQ, HS⟩ := hrel
        by_cases hlt : l < h
        · obtain ⟨mid, hmid⟩ : ∃ mid, mid = (l + h + 1) / 2 := ⟨_, rfl⟩
          have hmi : ((l : Int) + (h : Int) + 1) / 2 = (mid : Int) := by omega
          have hm1 : 1 ≤ mid := by omega
          have hm9 : mid < 1000000000 := by omega
          have hlm : l < mid := by omega
          have hmh : mid ≤ h := by omega
          have hbA := (Below.refl wr.heap.size wr).alloc (Nat.le_refl _) (.cells #[.int .i64 mid] 3)
          have HSL := Lib.hid (show Gi (wr.alloc (.cells #[.int .i64 mid] 3)) (wr.alloc (.cells #[.int .i64 mid] 3)).heap.size (some ⟨wr.heap.size, 0, none⟩) 1 [mid] by
            have := Sl.lit wr #[.int .i64 mid] 3 [mid] rfl G1_len; simpa using this)
          have HSA := Lib.hid (HS.out.here hbA)
          have HTM := Lib.hid (rTimes_any A' (some ⟨wr.heap.size, 0, none⟩) m 1 c' 1 ys [mid] v mid (wr.alloc (.cells #[.int .i64 mid] 3)) (HY.out.here HSA.out.bl) HSL.out HMY.out (Mag.one' hm1 hm9) (by omega) (by omega))
          have HCMP := Lib.hid (show v * mid ≤ R' ↔ mid ≤ q by rw [HQ.out, Nat.le_div_iff_mul_le hv, Nat.mul_comm])
          clear hmid hbA HSL
          go_wp2_with fail
          generalize wr.alloc (.cells #[.int .i64 mid] 3) = W2 at *
          (with_reducible refine HTM.out.mono ?_)
          rintro e w6 ⟨A6, n6, c6, zs, rfl, hg6, hc6, mg6, hb6⟩
          have HS6 := Lib.hid (HSA.out.here hb6)
          have HOR := Lib.hid (rOrder_any A6 A4 n6 j c6 c4 zs rs' (v * mid) R' w6 hg6 HS6.out.g mg6 HS6.out.m (by
            rw [hg6.1]
            have : zs.length ≤ m + 1 := mg6.len (by
              have h1 := HMY.out.lt_len
              rw [← HYN.out] at h1
              rw [Nat.pow_succ]
              exact Nat.lt_of_le_of_lt (Nat.mul_le_mul_left v (Nat.le_of_lt hm9)) (Nat.mul_lt_mul_of_pos_right h1 (by omega)))
            omega) (by have := HS6.out.l; omega))
          clear hg6 mg6 hb6 HTM HSA
          go_wp2_with fail
          (with_reducible refine HOR.out.mono ?_)
          rintro e w7 ⟨rfl, hb7⟩
          have HS7 := Lib.hid (HS6.out.here hb7)
          by_cases hle : v * mid ≤ R'
          · have hsd : decide (sgnI (((v * mid : Nat) : Int) - R') ≤ 0) = true := by
              unfold sgnI; simp only [decide_eq_true_eq]; (repeat' split) <;> omega
            have HMQ := Lib.hid (HCMP.out.1 hle)
            clear hle HCMP HOR
            generalize sgnI (((v * mid : Nat) : Int) - R') = sg_ at *
            go_wp2_with fail
            go_roundw
            case rel => exact ⟨mid, h, rfl, rfl, hh, hmh, ⟨HMQ.out, HLQ.out.2⟩, HS7⟩
            case measure => simp [intOf]; omega
          · have hsd : decide (sgnI (((v * mid : Nat) : Int) - R') ≤ 0) = false := by
              unfold sgnI; simp only [decide_eq_false_iff_not]; (repeat' split) <;> omega
            have HMQ := Lib.hid (show ¬ mid ≤ q from fun h => hle (HCMP.out.2 h))
            clear hle HCMP HOR
            generalize sgnI (((v * mid : Nat) : Int) - R') = sg_ at *
            go_wp2_with fail
            go_roundw
            case rel => exact ⟨l, mid - 1, rfl, by rw [show ((mid - 1 : Nat) : Int) = (mid : Int) - 1 by omega], by omega, by omega, ⟨HLQ.out.1, by have := HMQ.out; omega⟩, HS7⟩
            case measure => simp [intOf]; omega
        · obtain rfl : l = q := by have := HLQ.out; omega
          have hld : decide (l < h) = false := by simpa using hlt
          clear hlt
          obtain ⟨o, ho⟩ : ∃ o, qs[i]? = some o := ⟨_, List.getElem?_eq_getElem (by rw [HI.out.len, ← HXN.out]; omega)⟩
          have e0 := HS.out.q.cellI ho
          have f0 := HS.out.q.frozen i
          have HOK := Lib.hid ho; clear ho
          have HMD := Lib.hid (show R' % v = R' - v * l by rw [HQ.out]; have := Nat.div_add_mod R' v; omega)
          have HLE := Lib.hid (show v * l ≤ R' by rw [HQ.out]; exact Nat.mul_div_le R' v)
          have HNX := Lib.hid HSS.out.1
          have hi1 : i < n := by omega
          have HS8 := Lib.hid (show RDSt w w.heap.size n (qs.set i l) A4 j c4 rs' R' (wr.setCell ⟨w.heap.size, i, none⟩ (.int .i64 l)) from
            ⟨HS.out.q.setI HOK.out, by have := HS.out.g.far (p := ⟨w.heap.size, i, none⟩) (HNE.out) (.int .i64 l); simpa using this, HS.out.m, HS.out.c, HS.out.l, HS.out.bl.setCell (p := ⟨w.heap.size, i, none⟩) (Nat.le_refl _) _⟩)
          obtain ⟨W8, hW8⟩ : ∃ W8, W8 = wr.setCell ⟨w.heap.size, i, none⟩ (.int .i64 l) := ⟨_, rfl⟩
          rw [← hW8] at HS8
          have HW8 := Lib.hid hW8; clear hW8
          clear HS
          by_cases hl0 : l = 0
          · have hd : decide (0 < l) = false := by simp [hl0]
            have HEQ := Lib.hid (show R' % v = R' by rw [HMD.out, hl0]; simp)
            clear hl0
            go_wp2_with fail
            rw [← HW8.out]
            go_roundw
            case rel => exact ⟨i, j, c4, R' % v, (i : Int) - 1, A4, rs', qs.set i l, rfl, by show _ = _; rfl, by omega, rfl, HNX, by rw [HEQ.out]; exact HS8⟩
            case measure => simp [intOf]
          · have hd : decide (0 < l) = true := by simp; omega
            have hbA := (Below.refl W8.heap.size W8).alloc (Nat.le_refl _) (.cells #[.int .i64 l] 3)
            have HSL := Lib.hid (show Gi (W8.alloc (.cells #[.int .i64 l] 3)) (W8.alloc (.cells #[.int .i64 l] 3)).heap.size (some ⟨W8.heap.size, 0, none⟩) 1 [l] by
              have := Sl.lit W8 #[.int .i64 l] 3 [l] rfl G1_len; simpa using this)
            have HSA := Lib.hid (HS8.out.here hbA)
            have HTM := Lib.hid (rTimes_any A' (some ⟨W8.heap.size, 0, none⟩) m 1 c' 1 ys [l] v l (W8.alloc (.cells #[.int .i64 l] 3)) (HY.out.here HSA.out.bl) HSL.out HMY.out (Mag.one' (by omega) hq9) (by omega) (by omega))
            clear hbA HSL hl0
            go_wp2_with fail
            rw [← HW8.out]
            have hsz8 : W8.heap.size = wr.heap.size := by rw [HW8.out]; simp
            rw [hsz8] at HTM
            clear hsz8
            generalize W8.alloc (.cells #[.int .i64 l] 3) = W2 at *
            (with_reducible refine HTM.out.mono ?_)
            rintro e w6 ⟨A6, n6, c6, zs, rfl, hg6, hc6, mg6, hb6⟩
            have HS6 := Lib.hid (HSA.out.here hb6)
            have HMI := Lib.hid (rMinus_any A4 A6 j n6 c4 c6 rs' zs R' (v * l) w6 HS6.out.g hg6 HS6.out.m mg6 (by have := HS6.out.l; omega) (by
              rw [hg6.1]
              have : zs.length ≤ m + 1 := mg6.len (by
                have h1 := HMY.out.lt_len
                rw [← HYN.out] at h1
                rw [Nat.pow_succ]
                exact Nat.lt_of_le_of_lt (Nat.mul_le_mul_left v (Nat.le_of_lt hq9)) (Nat.mul_lt_mul_of_pos_right h1 (by omega)))
              omega) HLE.out)
            rw [← HMD.out] at HMI
            clear hg6 mg6 hb6 HTM HSA
            go_wp2_with fail
            (with_reducible refine HMI.out.mono ?_)
            rintro e w7 ⟨A9, n9, c9, rs9, rfl, hg9, hc9, mg9, hb9⟩
            have HS9 := HS6.out.here hb9
            have HS10 := Lib.hid (show RDSt w w.heap.size n (qs.set i l) A9 n9 c9 rs9 (R' % v) w7 from ⟨HS9.q, hg9, mg9, hc9, by
              rw [hg9.1]
              have : rs9.length ≤ m := mg9.len (by
                have h1 := HMY.out.lt_len
                rw [← HYN.out] at h1
                exact Nat.lt_trans (Nat.mod_lt _ hv) h1)
              omega, HS9.bl⟩)
            clear hg9 mg9 HS9
            go_wp2_with fail
            go_roundw
            case rel => exact ⟨i, n9, c9, R' % v, (i : Int) - 1, A9, rs9, qs.set i l, rfl, by show _ = _; rfl, by omega, rfl, HNX, HS10⟩
            case measure => simp [intOf]
end Go.Proofs.YtpnncoinlopndaaGreatDoor

namespace Go.Proofs.YtpnncoinlopndaaGreatDoor
open Go.RowKit Go.Shelf
def RNumB (w : World) (p : Nat) (neg : Bool) (A : Option Addr) (n c : Nat) : Prop := w.heap[p]? = some (.cells #[.bool neg, .slice A n c] 126 (0, 0))
section
variable {w w' : World} {p q : Nat} {neg : Bool} {A : Option Addr} {n c : Nat}
theorem RNumB.lt (h : RNumB w p neg A n c) : p < w.heap.size := (Array.getElem?_eq_some_iff.1 h).1
theorem RNumB.cells (h : RNumB w p neg A n c) : w.cell? ⟨p, 0, none⟩ = some (.bool neg) ∧ w.cell? ⟨p, 1, none⟩ = some (.slice A n c) :=
  ⟨cell_of_row w p 0 _ 126 (0, 0) h, cell_of_row w p 1 _ 126 (0, 0) h⟩
theorem RNumB.frozen (h : RNumB w p neg A n c) (j : Nat) : w.frozen? ⟨p, j, none⟩ = false := by
  unfold RNumB at h
  simp [World.frozen?, h]
theorem RNumB.below {N : Nat} (h : RNumB w p neg A n c) (hb : Below N w w') (hg : p < N) : RNumB w' p neg A n c := (hb.block p hg).trans h
theorem RNumB.here (h : RNumB w p neg A n c) (hb : Below w.heap.size w w') : RNumB w' p neg A n c := h.below hb h.lt
theorem RNumB.new (w : World) (neg : Bool) (A : Option Addr) (n c : Nat) : RNumB (w.alloc (.cells #[.bool neg, .slice A n c] 126)) w.heap.size neg A n c := heap_alloc_new w _
theorem RNumB.far (h : RNumB w p neg A n c) {a : Addr} (hp : p ≠ a.block) (u : Value) : RNumB (w.setCell a u) p neg A n c := (Below.heap_setCell w a u p hp).trans h
theorem RNumB.set1 {A' : Option Addr} {n' c' : Nat} (h : RNumB w p neg A n c) : RNumB (w.setCell ⟨p, 1, none⟩ (.slice A' n' c')) p neg A' n' c' := by
  unfold RNumB at h ⊢
  rw [heap_setCell_same w p 1 _ 126 _ h]
  rfl
theorem RNumB.alloc (h : RNumB w p neg A n c) (o : Obj) : RNumB (w.alloc o) p neg A n c := (Below.heap_alloc w o p h.lt).trans h
theorem RNumB.grown {row : Option Nat} (h : RNumB w p neg A n c) (hg : w.grownBy w' row) (hr : ∀ g, row = some g → p ≠ g) : RNumB w' p neg A n c := (hg.block p h.lt (fun e => hr p e.symm rfl)).trans h
end
def RReadPost (a : List UInt8) (w : World) (e : Ending) (w' : World) : Prop :=
  ∃ A n c xs, e = .returned (.agg #[.bool (digL a).2, .slice A n c]) ∧ Gi w' w'.heap.size A n xs ∧ n ≤ c ∧ Mag xs (valD (digL a).1) ∧ Below w.heap.size w w'
theorem valD_seg {s : List UInt8} {lo i : Nat} {b : UInt8} (h : s[i]? = some b) (hlo : lo ≤ i) : valD ((s.take (i + 1)).drop lo) = 10 * valD ((s.take i).drop lo) + (b.toNat - 48) := by
  obtain ⟨hi, rfl⟩ := List.getElem?_eq_some_iff.1 h
  rw [List.take_succ_eq_append_getElem hi, List.drop_append_of_le_length (by rw [List.length_take]; omega), valD_snoc]
theorem valD_seg_lt {s : List UInt8} (hd : s.all isDig = true) (lo i : Nat) (h9 : i ≤ lo + 9) : valD ((s.take i).drop lo) < 1000000000 := by
  have h : ((s.take i).drop lo).all isDig = true := by
    rw [List.all_eq_true] at hd ⊢
    exact fun x hx => hd x (List.mem_of_mem_take (List.mem_of_mem_drop hx))
  have h1 := valD_lt h
  have h2 : 10 ^ ((s.take i).drop lo).length ≤ 10 ^ 9 := Nat.pow_le_pow_right (by omega) (by rw [List.length_drop, List.length_take]; omega)
  omega
set_option maxRecDepth 20000 in
set_option maxHeartbeats 1000000 in
theorem rRead_any (a : List UInt8) (w : World) (ha : a.length ≤ 1000000) : Calls Tryz.prog 97 #[S a] w (RReadPost a w) := by
  have hb0 : Below w.heap.size w (w.alloc (.cells #[.bool false, .slice none 0 0] 126)) := (Below.refl _ _).alloc (Nat.le_refl _) _
  have HDG := Lib.hid (rDigits_any a (w.alloc (.cells #[.bool false, .slice none 0 0] 126)) (by omega))
  obtain ⟨hd, hz, _⟩ := digL_ok a
  have hl := digL_len a
  have HP := Lib.hid (show RReadPost a w = fun e w' => ∃ A n c xs, e = .returned (.agg #[.bool (digL a).2, .slice A n c]) ∧ Gi w' w'.heap.size A n xs ∧ n ≤ c ∧ Mag xs (valD (digL a).1) ∧ Below w.heap.size w w' from rfl)
  generalize RReadPost a w = post at *
  generalize (digL a).1 = s at *
  generalize (digL a).2 = neg at *
  have hsl : s.length ≤ 1000000 := by omega
  have HD := Lib.hid hd; have HZ := Lib.hid hz; have HB0 := Lib.hid hb0
  have HR0 := Lib.hid (RNumB.new w false none 0 0)
  clear hd hz hl hb0
  unfold S at *
  go_enter Tryz.func97, Tryz.ntmps97
  go_wp2_with (go_at_call 115; refine HDG.out.mono ?_; rintro e w1 ⟨rfl, rfl⟩)
  have hR1 : RNumB ((w.alloc (.cells #[.bool false, .slice none 0 0] 126)).alloc (.cells #[.bool neg, .slice none 0 0] 126)) (w.heap.size + 1) neg none 0 0 := by
    have := RNumB.new (w.alloc (.cells #[.bool false, .slice none 0 0] 126)) neg none 0 0
    simp only [World.size_alloc] at this
    exact this
  have HRZ := Lib.hid (HR0.out.alloc (.cells #[.bool neg, .slice none 0 0] 126))
  have HR1 := Lib.hid hR1; clear hR1
  have hbA : Below w.heap.size w ((w.alloc (.cells #[.bool false, .slice none 0 0] 126)).alloc (.cells #[.bool neg, .slice none 0 0] 126)) := ((Below.refl _ _).alloc (Nat.le_refl _) _).alloc (by simp) _
  have hsz0 : w.heap.size + 2 ≤ ((w.alloc (.cells #[.bool false, .slice none 0 0] 126)).alloc (.cells #[.bool neg, .slice none 0 0] 126)).heap.size := by simp
  generalize (w.alloc (.cells #[.bool false, .slice none 0 0] 126)).alloc (.cells #[.bool neg, .slice none 0 0] 126) = W1 at *
  go_loopw [6] (fun i wr => ∃ (j co : Nat) (ei : Int) (Ao : Option Addr) (gs : List Nat), j ≤ 1000000 ∧ i = .int .i64 ei ∧ Hid (ei = (s.length : Int) - 9 * j) ∧ Hid (RNumB wr w.heap.size false none 0 0) ∧ Hid (RNumB wr (w.heap.size + 1) neg Ao j co) ∧ Hid (Own G1 1 3 wr (w.heap.size + 2) (.slice Ao j co) gs) ∧ Hid (RInv s j gs) ∧ Hid (9 * j ≤ s.length + 8) ∧ Hid (w.heap.size + 2 ≤ wr.heap.size) ∧ Below w.heap.size w wr) (fun i _ => (intOf i).toNat)
  case atStart => exact ⟨0, 0, _, none, [], by omega, rfl, by show _ = _; simp, HRZ, HR1, Own.nil, RInv.zero s, by show _ ≤ _; omega, hsz0, hbA⟩
  case round =>
    clear HRZ HR1 HR0 hbA hsz0 HDG
    obtain ⟨j, co, ei, Ao, gs, hj, rfl, HE, HRZ, HRN, HO, HI, HJ, HSZ, hb⟩ := hrel
    by_cases hlt : 9 * j < s.length
    · have HR := Lib.hid (HI.out.step HD.out HZ.out hlt)
      obtain ⟨en, hen⟩ : ∃ en : Nat, ei = en := ⟨ei.toNat, by have := HE.out; omega⟩
      subst hen
      have hep : 0 < en := by have := HE.out; omega
      have hel : en ≤ s.length := by have := HE.out; omega
      obtain ⟨lo, hlo⟩ : ∃ lo : Nat, lo = en - 9 := ⟨_, rfl⟩
      have hmx : max 0 ((en : Int) - 9) = (lo : Int) := by omega
      have hle : lo ≤ en := by omega
      have hlo9 : en ≤ lo + 9 := by omega
      have HGO := Lib.hid (show (s.take en).drop lo = grpOf s j by
        unfold grpOf; have h1 := HE.out
        rw [show en = s.length - 9 * j by omega, show lo = s.length - 9 * (j + 1) by omega])
      clear hlo
      have HIL := Lib.hid HI.out.len
      go_wp2_with fail
      go_loop [7, 8] (fun n i => ∃ (k m : Nat), lo ≤ k ∧ k ≤ en ∧ i = .int .i64 k ∧ n = .int .i64 m ∧ m < 1000000000 ∧ Hid (m = valD ((s.take k).drop lo))) (fun _ i => en - (intOf i).toNat)
      case atStart => exact ⟨lo, 0, Nat.le_refl _, hle, rfl, rfl, by omega, by show _ = _; rw [List.drop_of_length_le (by rw [List.length_take]; omega)]; rfl⟩
      case round =>
        obtain ⟨k, m, hk1, hk2, rfl, rfl, hm, HM⟩ := hrel
        by_cases hke : k < en
        · obtain ⟨b, hbb⟩ : ∃ b, s[k]? = some b := ⟨_, List.getElem?_eq_getElem (by omega)⟩
          have hks : k < (⟨s.toArray⟩ : ByteArray).size := by rw [str_size]; omega
          have hbk : (⟨s.toArray⟩ : ByteArray)[k] = b := at_mk hbb hks
          obtain ⟨h1, h2⟩ := (isDig_iff b).1 (by have := HD.out; rw [List.all_eq_true] at this; exact this b (List.mem_of_getElem? hbb))
          have HST := Lib.hid (valD_seg (lo := lo) hbb hk1)
          have hm2 := valD_seg_lt HD.out lo (k + 1) (by omega)
          rw [HST.out, ← HM.out] at hm2
          have hkl : k < s.length := by omega
          clear hbb
          go_wp2
          go_round
          case rel => exact ⟨k + 1, 10 * m + (b.toNat - 48), by omega, by omega, by go_num, by rw [show ((10 * m + (b.toNat - 48) : Nat) : Int) = 10 * (m : Int) + ((b.toNat : Int) - 48) by omega], hm2, by show _ = _; rw [HST.out, ← HM.out]⟩
          case measure => simp [intOf]; omega
        · obtain rfl : k = en := by omega
          have HMV := Lib.hid (show m = valD (grpOf s j) by rw [← HGO.out]; exact HM.out)
          rw [← HMV.out] at HR
          have hked : decide (k < k) = false := by simp
          obtain ⟨c0, c1⟩ := HRN.out.cells
          obtain ⟨q1, q2, q3, hf⟩ := HO.out.facts; clear q1 q2 q3
          have HF := Lib.hid hf; clear hf
          have HRA := Lib.hid (HRN.out.alloc (.cells #[.int .i64 m] 3))
          go_wp2_with (at_builtin; refine wpList_app _ rfl (.tmp 39) (.tmp 41) _ rfl elemInts G1_len G1_one (base := w.heap.size + 2) (.slice Ao j co) gs rfl (HO.out.alloc _) _ _ 1 1 [m] rfl (Sl.lit wr #[.int .i64 m] 3 [m] rfl G1_len) (by rw [HIL.out]; omega) (by have := HSZ.out; simp; omega) ?_; intro A4 c4 w4 ho4 hg4 hat4
                       rw [HIL.out] at ho4 ⊢
                       have hrow : ∀ g, (Value.slice Ao j co).ownBlock = some g → w.heap.size + 2 ≤ g := fun g e => by
                         rcases HF.out with ⟨h, _⟩ | ⟨g', h, hg1, hg2⟩
                         · rw [h] at e; simp [Value.ownBlock] at e
                         · rw [h] at e; simp [Value.ownBlock] at e; omega
                       have hRN4 := HRA.out.grown hg4 (fun g e => by have := hrow g e; omega)
                       have c4a := hRN4.cells.1; have c4b := hRN4.cells.2; have f4a := hRN4.frozen 0; have f4b := hRN4.frozen 1)
          have HR4 := Lib.hid hRN4; have HO4 := Lib.hid ho4; have HROW := Lib.hid hrow
          have HZ4 := Lib.hid ((HRZ.out.alloc (.cells #[.int .i64 m] 3)).grown hg4 (fun g e => by have := HROW.out g e; omega))
          have hb4 : Below w.heap.size w w4 := below_grown (hb.alloc hb.size _) hg4 (by have := hb.size; simp; omega) (fun g e => by have := HROW.out g e; omega)
          have HS4 := Lib.hid (show w.heap.size + 2 ≤ w4.heap.size by have h1 := hg4.size; have h2 := HSZ.out; simp at h1; omega)
          clear hRN4 ho4 hrow hg4 hat4 c4a c4b f4a f4b c0 c1
          go_roundw
          case rel =>
            refine ⟨j + 1, c4, (k : Int) - 9, A4, gs ++ [m], by have := HE.out; omega, rfl, by show _ = _; have := HE.out; omega, HZ4.out.far (by simp) _, HR4.out.set1, ?_, HR, by show _ ≤ _; omega, ?_, hb4.setCell (p := ⟨w.heap.size + 1, 1, none⟩) (by simp only; omega) _⟩
            · refine HO4.out.far ?_ _
              rcases HO4.out.facts.2.2.2 with ⟨h, _⟩ | ⟨g, h, hg1, _⟩
              · rw [h]; simp [Value.ownBlock]
              · rw [h]; simp only [Value.ownBlock]; intro e; injection e with e; omega
            · show _ ≤ _
              have := HS4.out; simp; omega
          case measure => simp [intOf]; omega
    · have hei : ei ≤ 0 := by have := HE.out; omega
      obtain ⟨c0, c1⟩ := HRN.out.cells
      obtain ⟨z0, z1⟩ := HRZ.out.cells
      have f0 := HRZ.out.frozen 0; have f1 := HRZ.out.frozen 1
      go_wp2_with fail
      rw [HP.out]
      have hne : (Value.slice Ao j co).ownBlock ≠ some w.heap.size := by
        rcases HO.out.facts.2.2.2 with ⟨h, _⟩ | ⟨g, h, hg1, hg2⟩
        · rw [h]; simp [Value.ownBlock]
        · rw [h]; simp only [Value.ownBlock]; intro h; injection h with h; omega
      refine bodyPost_ret (v := .agg #[.bool neg, .slice Ao j co]) (by simp [results, Tryz.results97, go_sem, z0, z1]) rfl ⟨Ao, j, co, gs, rfl, ?_, ?_, ?_, ?_⟩
      · exact ((HO.out.far hne _).far hne _).sl G1_len
      · have h1 := HO.out.facts.2.1; have h2 := HO.out.facts.1; omega
      · exact ⟨HI.out.ok, HI.out.nz (by omega), by rw [HI.out.val, show s.length - 9 * j = 0 by omega]; rfl⟩
      · exact (hb.setCell (p := ⟨w.heap.size, 0, none⟩) (Nat.le_refl _) _).setCell (p := ⟨w.heap.size, 1, none⟩) (Nat.le_refl _) _
end Go.Proofs.YtpnncoinlopndaaGreatDoor

