/- Contract of the reference's combine, Unite, Minus, Common. -/
import Derived.Test.YtiefdlfninhbgaaGreatDoorW8
import Derived.Test.YtiefdlfninhbgaaGreatDoorSt
import Derived.Deep.DeepCutAuto
namespace Go.Proofs.YtiefdlfninhbgaaGreatDoor
open Go.RowKit Go.Shelf

def rcond (oA oB bo x y : Bool) : Bool := x && !y && oA || !x && y && oB || x && y && bo
def refC (cond : Bool → Bool → Bool) (xs ys : List Reg) : List Reg := joinL (bandsL (daysL (xs ++ ys)) fun d => spansL (endsL (xs ++ ys) d) fun k => cond (hasL xs d k) (hasL ys d k))
def rOper (cond : Bool → Bool → Bool) (xs ys : List Reg) : List Reg × Int := if checkL xs = 0 ∧ checkL ys = 0 then limL (refC cond xs ys) else ([], 1)
theorem rcond_false {oA oB bo x y : Bool} (h : rcond oA oB bo x y = false) : (x = false ∧ y = false) ∨ (x = true ∧ y = false ∧ oA = false) ∨ (x = false ∧ y = true ∧ oB = false) ∨ (x = true ∧ y = true ∧ bo = false) := by
  revert oA oB bo x y; decide
theorem rcond_true {oA oB bo x y : Bool} (h : rcond oA oB bo x y = true) : (x = true ∧ y = false ∧ oA = true) ∨ (x = false ∧ y = true ∧ oB = true) ∨ (x = true ∧ y = true ∧ bo = true) := by
  revert oA oB bo x y; decide
theorem joinL_len (bs : List Band) (S : Nat) (h : ∀ b ∈ bs, b.sp.length ≤ S) : (joinL bs).length ≤ bs.length * S := by
  unfold joinL
  have hr := runsL_len bs
  have hsp : ∀ b ∈ runsL bs, (bandRegs b).length ≤ S := by
    intro b hb
    obtain ⟨y, hy, e⟩ := runsL_sp _ b hb
    unfold bandRegs
    rw [List.length_map, e]
    exact h y hy
  have key : ∀ (l : List Band), (∀ b ∈ l, (bandRegs b).length ≤ S) → (l.flatMap bandRegs).length ≤ l.length * S := by
    intro l
    induction l with
    | nil => intro _; simp
    | cons a l ih =>
      intro h
      rw [List.flatMap_cons, List.length_append, List.length_cons, Nat.succ_mul]
      have h1 := ih (fun b hb => h b (by simp [hb]))
      have h2 := h a (by simp)
      omega
  exact Nat.le_trans (key _ hsp) (Nat.mul_le_mul_right _ hr)
theorem checkL_len {xs : List Reg} (h : checkL xs = 0) : xs.length ≤ 400 := by
  unfold checkL at h
  split at h
  · omega
  · omega

set_option maxRecDepth 100000 in
set_option maxHeartbeats 40000000 in
theorem rcombine_ok (oA oB bo : Bool) (Aa Ab : Option Addr) (na nb ca cb : Nat) (xs ys : List Reg) (w : World) (ha : Rgs w w.heap.size Aa na xs) (hb0 : Rgs w w.heap.size Ab nb ys) (hna : na ≤ 1000000000) (hnb : nb ≤ 1000000000)
    (h1 : checkL xs = 0) (h2 : checkL ys = 0) :
    Calls Tryz.prog 47 #[.slice Aa na ca, .slice Ab nb cb, .bool oA, .bool oB, .bool bo] w (RetOwn2 Reg.vals 4 35 w.heap.size w (limL (refC (rcond oA oB bo) xs ys))) := by
  have HC1 := Lib.hid (rCheck_any Aa na ca xs w ha hna)
  have HC2 := Lib.hid (fun (W : World) (hb : Below w.heap.size w W) => rCheck_any Ab nb cb ys W ((hb0.below hb).more hb.size) hnb)
  rw [h1] at HC1
  rw [h2] at HC2
  have hn1 : na ≤ 400 := by rw [ha.1]; exact checkL_len h1
  have hn2 : nb ≤ 400 := by rw [hb0.1]; exact checkL_len h2
  clear h1 h2 hna hnb
  have HXN := Lib.hid ha.1
  have HYN := Lib.hid hb0.1
  have HA := Lib.hid ha; have HB := Lib.hid hb0; clear ha hb0
  have HCD := Lib.hid (show refC (rcond oA oB bo) xs ys = joinL (bandsL (daysL (xs ++ ys)) fun d => spansL (endsL (xs ++ ys) d) fun k => rcond oA oB bo (hasL xs d k) (hasL ys d k)) from rfl)
  have HSPD := Lib.hid (show ∀ d, (fun d => spansL (endsL (xs ++ ys) d) fun k => rcond oA oB bo (hasL xs d k) (hasL ys d k)) d = spansL (endsL (xs ++ ys) d) fun k => rcond oA oB bo (hasL xs d k) (hasL ys d k) from fun _ => rfl)
  generalize (fun d => spansL (endsL (xs ++ ys) d) fun k => rcond oA oB bo (hasL xs d k) (hasL ys d k)) = sp at HCD HSPD
  generalize refC (rcond oA oB bo) xs ys = res at *
  go_enter Tryz.func47, Tryz.ntmps47
  go_wp2_with (first
    | (go_at_call_of 16 (Value.slice Aa na ca); refine HC1.out.mono ?_; rintro e w1 ⟨rfl, hb1⟩)
    | (go_at_call_of 16 (Value.slice Ab nb cb); refine (HC2.out _ hb1).mono ?_; rintro e w2 ⟨rfl, hb2⟩; have hb12 : Below w.heap.size w w2 := hb1.trans (hb2.mono hb1.size); have hbA := hb12.alloc hb12.size (.cells #[] 35))
    | (at_builtin; refine wpList_app _ rfl (.tmp 33) (.tmp 34) _ rfl elemRegs Reg.vals_len Reg.vals_one (base := w.heap.size) (.slice (some ⟨w2.heap.size, 0, none⟩) 0 0) [] rfl (Own.lit w2 #[] 35 [] rfl Reg.vals_len hb12.size (by simp)) _ _ na ca xs rfl (HA.out.below hbA) (by simp; omega) (by have := hb12.size; simp; omega) ?_
       intro A3 c3 w3 ho3 hg3 _
       rw [List.length_nil, Nat.zero_add] at ho3 ⊢
       rw [List.nil_append] at ho3
       have hb3 : Below w.heap.size w w3 := below_grown hbA hg3 (by have := hb12.size; simp; omega) (fun g e => by simp [Value.ownBlock] at e; have := hb12.size; omega)
       clear hg3 hbA)
    | (at_builtin; refine wpList_app _ rfl (.tmp 35) (.tmp 36) _ rfl elemRegs Reg.vals_len Reg.vals_one (base := w.heap.size) (.slice A3 na c3) xs rfl ho3 _ _ nb cb ys rfl (HB.out.below hb3) (by have := HXN.out; omega) hb3.size ?_
       intro A4 c4 w4 ho4 hg4 _
       have hb4 : Below w.heap.size w w4 := below_grown hb3 hg4 hb3.size (fun g e => by
         obtain ⟨_, _, _, hf⟩ := ho3.facts
         rcases hf with ⟨rfl, _⟩ | ⟨g', rfl, hg1, _⟩
         · simp [Value.ownBlock] at e
         · simp [Value.ownBlock] at e; omega)
       clear hg4 ho3 hb3
       rw [← HXN.out] at ho4 ⊢
       have HO4 := Lib.hid ho4; clear ho4)
    | (go_at_call 59; refine (days_any A4 (na + nb) c4 (xs ++ ys) _ (HO4.out.sl Reg.vals_len) (by omega)).mono ?_; rintro e w5 ⟨A5, c5, rfl, ho5, hb5⟩))
  have HALL := Lib.hid ((HO4.out.sl Reg.vals_len).here hb5)
  have hb05 : Below w.heap.size w w5 := hb4.trans (hb5.mono hb4.size)
  have HAa := Lib.hid ((HA.out.below hb05).more hb05.size)
  have HBb := Lib.hid ((HB.out.below hb05).more hb05.size)
  clear HA HB HO4 hb5 hb4 hb12 hb1 hb2 HC1 HC2
  have HB05 := Lib.hid hb05; clear hb05
  have hdl : (daysL (xs ++ ys)).length ≤ 1600 := by have := daysL_len (xs ++ ys); rw [List.length_append] at this; have := HXN.out; have := HYN.out; omega
  have HZN := Lib.hid (show na + nb = (xs ++ ys).length by rw [List.length_append, ← HXN.out, ← HYN.out])
  have HEL := Lib.hid (show ∀ d, (endsL (xs ++ ys) d).length ≤ 1600 from fun d => by have := endsL_len (xs ++ ys) d; have := HZN.out; omega)
  generalize daysL (xs ++ ys) = at_ at *
  generalize xs ++ ys = zs at *
  have hN : na + nb ≤ 800 := by omega
  generalize na + nb = N at *
  have HO5 := Lib.hid (ho5.sl I1_len); clear ho5
  go_loopw [14, 15, 16, 17, 18, 19, 20, 21, 22, 23] (fun v i _ _ _ _ _ _ _ _ wr => ∃ (j m co : Nat) (Ao : Option Addr) (rs : List RB), (j = 0 ∨ j + 1 ≤ at_.length) ∧ i = .int .i64 j ∧ v = .slice Ao m co ∧ m ≤ j ∧ Own RB.vals 3 75 wr w5.heap.size (.slice Ao m co) rs ∧
      Hid (BandsOwn wr w5.heap.size rs ((bandsL at_ sp).take j)) ∧ Below w5.heap.size w5 wr) (fun _ i _ _ _ _ _ _ _ _ _ => at_.length - (intOf i).toNat)
  case atStart =>
    exact ⟨0, 0, 0, _, [], .inl rfl, rfl, rfl, Nat.le_refl _, Own.lit w5 #[] 75 [] rfl RB.vals_len (Nat.le_refl _) (by simp), BandsOwn.nil, (Below.refl _ _).alloc (Nat.le_refl _) _⟩
  case round =>
    obtain ⟨j, m, co, Ao, rs, hj, rfl, rfl, hm, hoB, HBO, hbO⟩ := hrel
    obtain ⟨wo, rfl⟩ : ∃ W, W = wr := ⟨_, rfl⟩
    obtain ⟨rfl, _, _, hAo⟩ := hoB.facts
    have HAo := Lib.hid hAo; clear hAo
    have HOB := Lib.hid hoB; clear hoB
    by_cases hlt : j + 1 < at_.length
    · obtain ⟨ba, oa, a, hA5, hba, hla, da⟩ := (HO5.out.below hbO).int (i := j) (by omega)
      obtain ⟨ba', oa', b, hA6, _, hlb, db⟩ := (HO5.out.below hbO).int (i := j + 1) hlt
      subst hA5
      injection hA6 with hA6
      injection hA6 with e1 e2
      subst e1; subst e2
      have HST := Lib.hid (bandsL_step (sp := sp) hla hlb)
      have HSA := Lib.hid (HSPD.out a)
      have hel := HEL.out a
      clear hla hlb
      have i1 : (j : Int) < (at_.length : Int) := by omega
      have i2 : (j : Int) + 1 < (at_.length : Int) := by omega
      have i3 : 0 ≤ (j : Int) + 1 := by omega
      have HDA := Lib.hid da
      have HDB := Lib.hid db; clear db
      go_wp2
      clear da
      go_loopw [17, 18] (fun v k w1 => ∃ (q : Nat) (A' : Option Addr) (c' m : Nat), q ≤ N ∧ k = .int .i64 q ∧ v = .slice A' m c' ∧ m ≤ 2 * q ∧ Own I1 1 3 w1 wo.heap.size (.slice A' m c') (endsL (zs.take q) a) ∧ Below wo.heap.size wo w1) (fun _ k _ => N - (intOf k).toNat)
      case atStart =>
        exact ⟨0, _, _, 0, Nat.zero_le _, rfl, rfl, Nat.zero_le _, Own.lit wo #[] 3 [] rfl I1_len (Nat.le_refl _) (by simp), (Below.refl _ _).alloc (Nat.le_refl _) _⟩
      case round =>
        obtain ⟨q, A', c', m, hq, rfl, rfl, hm2, ho, hb⟩ := hrel
        have hbr : Below w5.heap.size w5 wr := hbO.trans (hb.mono hbO.size)
        by_cases hlt2 : q < N
        · obtain ⟨bz, off, r, rfl, hbl, hxj, d0, d1, d2, d3⟩ := (HALL.out.below hbr).reg hlt2
          have hL := endsL_step (d := a) hxj
          generalize endsL (zs.take q) a = l at *
          obtain ⟨rfl, _⟩ := ho.facts
          clear hxj
          have HO := Lib.hid ho; clear ho
          by_cases hact : act a r = true
          · as_aux_lemma =>
            have hL' : endsL (zs.take (q + 1)) a = insertL (insertL l r.si) r.un := by rw [hL]; unfold endsStep; rw [if_pos hact]
            have HL := Lib.hid hL'; clear hL hL'
            have hq2 : r.fr ≤ a ∧ a < r.to := by unfold act at hact; simpa using hact
            obtain ⟨q1, q2⟩ := hq2
            clear hact
            have hl1 := insertL_len l r.si
            have hl2 := insertL_len (insertL l r.si) r.un
            go_wp2
            go_region_held3 (fun w' => w'.cell? ⟨bz, off + q * 4 + 2, none⟩ = some (.int .i64 r.si) ∧ w'.cell? ⟨bz, off + q * 4 + 3, none⟩ = some (.int .i64 r.un))
              (first
                | go_keep
                | exact ⟨(hb1.cell (p := ⟨bz, off + q * 4 + 2, none⟩) (by have := hbr.size; simp; omega)).trans d2, (hb1.cell (p := ⟨bz, off + q * 4 + 3, none⟩) (by have := hbr.size; simp; omega)).trans d3⟩
                | exact ⟨((hb1.trans (hb2.mono hb1.size)).cell (p := ⟨bz, off + q * 4 + 2, none⟩) (by have := hbr.size; simp; omega)).trans d2, ((hb1.trans (hb2.mono hb1.size)).cell (p := ⟨bz, off + q * 4 + 3, none⟩) (by have := hbr.size; simp; omega)).trans d3⟩)
              (first
                | (go_at_call_of 63 (Value.int .i64 r.si); refine (insert_any wo.heap.size A' c' l r.si _ HO.out.drew (by exact hb.size) (by omega)).mono ?_; rintro e w1 ⟨A1, c1, rfl, ho1, hb1⟩)
                | (go_at_call_of 63 (Value.int .i64 r.un); refine (insert_any wo.heap.size A1 c1 (insertL l r.si) r.un _ ho1 (by exact Nat.le_trans hb.size hb1.size) (by omega)).mono ?_; rintro e w2 ⟨A2, c2, rfl, ho2, hb2⟩))
            all_goals
              go_wp2
              go_roundw
              case rel => exact ⟨q + 1, A2, c2, _, by omega, by go_num, rfl, by omega, by rw [HL.out]; exact ho2, hb.drew.trans ((hb1.trans (hb2.mono hb1.size)).mono hb.size)⟩
              case measure => simp [intOf]; omega
          · as_aux_lemma =>
            have hL' : endsL (zs.take (q + 1)) a = l := by rw [hL]; unfold endsStep; rw [if_neg hact]
            have HL := Lib.hid hL'; clear hL hL'
            have hq2 : ¬ (r.fr ≤ a ∧ a < r.to) := by unfold act at hact; simpa using hact
            clear hact
            have hq3 : a < r.fr ∨ (r.fr ≤ a ∧ r.to ≤ a) := by omega
            clear hq2
            rcases hq3 with hq3 | ⟨hq3, hq4⟩
            all_goals
              go_wp2
              go_roundw
              case rel => exact ⟨q + 1, A', c', _, by omega, by go_num, rfl, by omega, by rw [HL.out]; exact HO.out, hb⟩
              case measure => simp [intOf]; omega
        · rw [take_all HZN.out (by omega)] at ho
          generalize endsL zs a = l at *
          obtain ⟨rfl, _⟩ := ho.facts
          obtain ⟨we, rfl⟩ : ∃ W, W = wr := ⟨_, rfl⟩
          have HE := Lib.hid (ho.sl I1_len); clear ho
          have HF := Lib.hid (show ∀ k, rcond oA oB bo (hasL xs a k) (hasL ys a k) = (fun k => rcond oA oB bo (hasL xs a k) (hasL ys a k)) k from fun _ => rfl)
          generalize (fun k => rcond oA oB bo (hasL xs a k) (hasL ys a k)) = f at HF HSA
          clear hm2
          go_wp2
          go_loopw [19, 20, 21, 22, 23] (fun v i _ _ _ w1 => ∃ (k m co : Nat) (Ao : Option Addr), (k = 0 ∨ k + 1 ≤ l.length) ∧ i = .int .i64 k ∧ v = .slice Ao m co ∧ m ≤ k ∧ Own S2 2 79 w1 we.heap.size (.slice Ao m co) (spansTo l f k) ∧
              Below we.heap.size we w1) (fun _ i _ _ _ _ => l.length - (intOf i).toNat)
          case atStart => exact ⟨0, 0, 0, _, .inl rfl, rfl, rfl, Nat.le_refl _, Own.lit we #[] 79 [] rfl S2_len (Nat.le_refl _) (by simp), (Below.refl _ _).alloc (Nat.le_refl _) _⟩
          case round =>
            obtain ⟨k, m, co2, Ao2, hk, rfl, rfl, hm3, hoS, hbl⟩ := hrel
            have hbw : Below w5.heap.size w5 wr := hbr.trans (hbl.mono hbr.size)
            by_cases hlt3 : k + 1 < l.length
            · obtain ⟨be, oe, x, hbeA, hbe, hlx, da⟩ := (HE.out.below hbl).int (i := k) (by omega)
              obtain ⟨be', oe', y, hA7, _, hly, db⟩ := (HE.out.below hbl).int (i := k + 1) hlt3
              subst hbeA
              injection hA7 with hA7
              injection hA7 with e1 e2
              subst e1; subst e2
              have hbe2 : be < wr.drew.heap.size := Nat.lt_of_lt_of_le hbe hbl.size
              have hst := spansTo_step (f := f) hlx hly
              unfold spanStep at hst
              simp only at hst
              have hfa := HF.out x
              have hll := spansTo_len l f k
              generalize spansTo l f k = o at *
              obtain ⟨rfl, hco, hcm, hAo2⟩ := hoS.facts
              have HOS := Lib.hid hoS; clear hoS
              have HA2 := Lib.hid hAo2; clear hAo2
              have HST2 := Lib.hid hst; clear hst
              clear hlx hly
              have k1 : (k : Int) < (l.length : Int) := by omega
              have k2 : (k : Int) + 1 < (l.length : Int) := by omega
              have k3 : 0 ≤ (k : Int) + 1 := by omega
              go_upto_region 20 with (fail)
              have HDY := Lib.hid db; clear db
              go_cut [21, 22] (fun s t wc => s = .bool (hasL xs a x) ∧ t = .bool (hasL ys a x) ∧ Below wr.heap.size wr wc)
              case first =>
                go_region_held3 (fun w' => w'.cell? ⟨be, oe + k, none⟩ = some (.int .i64 x))
                (first
                  | go_keep
                  | exact (hb2.cell (p := ⟨be, oe + k, none⟩) hbe2).trans da
                  | exact ((hb2.trans (hb3.mono hb2.size)).cell (p := ⟨be, oe + k, none⟩) hbe2).trans da)
                (first
                  | (go_at_call_of 19 (Value.slice Aa na ca); refine (rHas_any Aa na ca xs a x _ ((HAa.out.below hbw).drew.more (by exact hbw.size)) (by omega)).mono ?_; rintro e w2 ⟨rfl, hb2⟩)
                  | (go_at_call_of 19 (Value.slice Ab nb cb); refine (rHas_any Ab nb cb ys a x _ (((HBb.out.below hbw).drew.below (hb2.mono hbw.size)).more (by exact Nat.le_trans hbw.size hb2.size)) (by omega)).mono ?_; rintro e w3 ⟨rfl, hb3⟩))
                all_goals
                  go_wp2_with fail
                  go_meet
                  exact ⟨rfl, rfl, (Below.refl _ wr).drew.trans (hb2.trans (hb3.mono hb2.size))⟩
              case rest =>
              obtain ⟨rfl, rfl, hbx⟩ := hcut
              generalize hasL xs a x = bx at *
              generalize hasL ys a x = by_ at *
              have HFA := Lib.hid hfa; clear hfa
              have da' := (hbx.cell (p := ⟨be, oe + k, none⟩) hbe2).trans da
              have db' := (hbx.cell (p := ⟨be, oe + (k + 1), none⟩) hbe2).trans HDY.out
              have HOX := Lib.hid (HOS.out.below hbx)
              have hblx := hbl.trans (hbx.mono hbl.size)
              clear da
              obtain ⟨wx, rfl⟩ : ∃ W, W = wc := ⟨_, rfl⟩
              go_upto_region 21 with (fail)
              go_cut [137] (fun s wc => s = .bool (!(rcond oA oB bo bx by_)) ∧ wc = wx)
              case first =>
                clear HST2 HA2 HOS HOX HDY HSA HALL HE HF HSPD HCD HBO HOB HAo
                cases oA <;> cases oB <;> cases bo <;> cases bx <;> cases by_ <;>
                · go_wp2_with fail
                  go_meet
                  exact ⟨rfl, rfl⟩
              case rest =>
              obtain ⟨rfl, hwc⟩ := hcut
              subst hwc
              obtain ⟨wx, rfl⟩ : ∃ W, W = wc := ⟨_, rfl⟩
              rw [HFA.out]
              cases hfv : f x with
              | false =>
                as_aux_lemma =>
                rw [hfv] at HST2
                clear hfv
                simp only [Bool.false_eq_true, if_false] at HST2
                simp only [Bool.not_false]
                go_wp2
                go_roundw
                case rel => exact ⟨k + 1, _, co2, Ao2, .inr (by omega), by go_num, rfl, by omega, by rw [HST2.out]; exact HOX.out, hblx⟩
                case measure => simp [intOf]; omega
              | true =>
                rw [hfv] at HST2
                clear hfv
                simp only [if_true] at HST2
                simp only [Bool.not_true]
                by_cases hq0 : o.length = 0
                · as_aux_lemma =>
                  obtain rfl : o = [] := List.eq_nil_of_length_eq_zero hq0
                  clear hq0
                  simp only [List.length_nil] at *
                  go_wp2
                  go_quiet (fail)
                  have hoS3 := HOX.out.drewN nq
                  have hb4 := bdN hblx nq
                  have da3 : (wx.drewN nq).cell? ⟨be, oe + k, none⟩ = some (.int .i64 x) := da'
                  have db3 : (wx.drewN nq).cell? ⟨be, oe + (k + 1), none⟩ = some (.int .i64 y) := db'
                  clear hbx da' db' hblx HOX
                  generalize wx.drewN nq = w6 at *
                  have HO3 := Lib.hid hoS3; clear hoS3
                  have i4 : IntKind.i64.wrap ((k : Int) + 1) = (k : Int) + 1 := IntWalk.i64_in _ (by omega)
                  have i5 : ((k : Int) + 1).toNat = k + 1 := by omega
                  go_wp2
                  refine wp_region_move_tail 11 (.slice Ao2 0 co2) (by kernel_rfl) (by kernel_rfl) (fun _ _ _ h => h) (Or.inl ⟨by rfl, by intro w; go_simp⟩) ?_
                  simp only [List.take_succ_cons, List.take_zero, List.drop_succ_cons, List.drop_zero]
                  repeat still_step
                  refine wpStill_nil ?_
                  clear i4 i5
                  go_wp2_with (at_builtin; refine wpList_app _ rfl (.tmp 165) (.tmp 176) _ rfl elemRSpans S2_len S2_one (base := we.heap.size) (.slice Ao2 0 co2) [] rfl (HO3.out.drew.alloc _) _ _ 1 1 [(x, y)] rfl (Sl.lit w6.drew #[.int .i64 x, .int .i64 y] 79 [(x, y)] rfl S2_len) (by simp) (by have := hb4.size; simp; omega) ?_; intro A4 c4 w7 ho4 hg4 hat4)
                  all_goals
                    have hb7 : Below we.heap.size we w7 := below_grown (hb4.drew.alloc hb4.size _) hg4 (by have := hb4.size; simp; omega) (fun g' e => by
                      rcases HA2.out with ⟨rfl, _⟩ | ⟨g, rfl, hg1, hg2⟩
                      · simp [Value.ownBlock] at e
                      · simp [Value.ownBlock] at e; omega)
                    have HO4 := Lib.hid ho4; clear ho4
                    clear hg4 hat4
                    go_wp2
                    go_roundw
                    case rel =>
                      refine ⟨k + 1, 1, c4, A4, .inr (by omega), by go_num, rfl, by omega, ?_, hb7⟩
                      rw [HST2.out, addSpan_new (fun s' hs' => by simp at hs')]
                      exact HO4.out
                    case measure => simp [intOf]; omega
                · obtain ⟨q0, hq'⟩ : ∃ q0, o.length = q0 + 1 := ⟨o.length - 1, by omega⟩
                  rcases HA2.out with ⟨_, _, hnil⟩ | ⟨g, rfl, hg1, hg2⟩
                  · rw [hnil] at hq0; simp at hq0
                  · clear hq0
                    obtain ⟨g', o', s, hg', _, hlast, ds1, ds2⟩ := (HOX.out.sl S2_len).span (i := q0) (by omega)
                    injection hg' with hg'
                    injection hg' with e1 e2
                    subst e1; subst e2
                    rw [hq'] at HOX hco hll ⊢
                    have HQ := Lib.hid hq'; clear hq'
                    have HLS := Lib.hid hlast; clear hlast
                    clear ds1 HOS
                    simp only [Nat.zero_add] at ds2
                    by_cases hsa : s.2 = x
                    · as_aux_lemma =>
                      have hsb : (s.2 == x) = true := by simp [hsa]
                      have HSX := Lib.hid hsa; clear hsa
                      have hfz : wx.frozen? ⟨g, q0 * 2 + 1, none⟩ = false := HOX.out.frozen _
                      go_wp2
                      go_quiet (fail)
                      go_wp2
                      go_roundw
                      case rel =>
                        refine ⟨k + 1, q0 + 1, co2, some ⟨g, 0, none⟩, .inr (by omega), by go_num, rfl, by omega, ?_, ?_⟩
                        · rw [HST2.out, addSpan_join (s := s) (by rw [HQ.out]; exact HLS.out) HSX.out, HQ.out]
                          exact (HOX.out.drewN nq).set_ S2_len (i := q0) (j := 1) (x := s) HLS.out (by decide) rfl
                        · exact (bdN hblx nq).setCell (p := ⟨g, q0 * 2 + 1, none⟩) hg1 _
                      case measure => simp [intOf]; omega
                    · as_aux_lemma =>
                      have hsb : (s.2 == x) = false := by simp [hsa]
                      have HSX := Lib.hid hsa; clear hsa
                      go_wp2
                      go_quiet (fail)
                      have hoS3 := HOX.out.drewN nq
                      have hb4 := bdN hblx nq
                      have da3 : (wx.drewN nq).cell? ⟨be, oe + k, none⟩ = some (.int .i64 x) := da'
                      have db3 : (wx.drewN nq).cell? ⟨be, oe + (k + 1), none⟩ = some (.int .i64 y) := db'
                      clear hbx da' db' hblx ds2 HOX
                      generalize wx.drewN nq = w6 at *
                      have HO3 := Lib.hid hoS3; clear hoS3
                      have i4 : IntKind.i64.wrap ((k : Int) + 1) = (k : Int) + 1 := IntWalk.i64_in _ (by omega)
                      have i5 : ((k : Int) + 1).toNat = k + 1 := by omega
                      go_wp2
                      refine wp_region_move_tail 11 (.slice (some ⟨g, 0, none⟩) (q0 + 1) co2) (by kernel_rfl) (by kernel_rfl) (fun _ _ _ h => h) (Or.inl ⟨by rfl, by intro w; go_simp⟩) ?_
                      simp only [List.take_succ_cons, List.take_zero, List.drop_succ_cons, List.drop_zero]
                      repeat still_step
                      refine wpStill_nil ?_
                      clear i4 i5
                      go_wp2_with (at_builtin; refine wpList_app _ rfl (.tmp 165) (.tmp 176) _ rfl elemRSpans S2_len S2_one (base := we.heap.size) (.slice (some ⟨g, 0, none⟩) (q0 + 1) co2) o rfl (HO3.out.drew.alloc _) _ _ 1 1 [(x, y)] rfl (Sl.lit w6.drew #[.int .i64 x, .int .i64 y] 79 [(x, y)] rfl S2_len) (by omega) (by have := hb4.size; simp; omega) ?_; intro A4 c4 w7 ho4 hg4 hat4)
                      all_goals
                        have hb7 : Below we.heap.size we w7 := below_grown (hb4.drew.alloc hb4.size _) hg4 (by have := hb4.size; simp; omega) (fun g' e => by simp [Value.ownBlock] at e; omega)
                        have HO4 := Lib.hid ho4; clear ho4
                        clear hg4 hat4
                        go_wp2
                        go_roundw
                        case rel =>
                          refine ⟨k + 1, o.length + 1, c4, A4, .inr (by omega), by go_num, rfl, by have := HQ.out; omega, ?_, hb7⟩
                          rw [HST2.out, addSpan_new (fun s' hs' => by rw [HQ.out] at hs'; rw [show q0 + 1 - 1 = q0 from rfl, HLS.out] at hs'; injection hs' with hs'; rw [← hs']; exact HSX.out)]
                          exact HO4.out
                        case measure => simp [intOf]; omega
            · as_aux_lemma =>
              have HSP := Lib.hid (show spansTo l f k = sp a by rw [spansTo_all (by omega), HSA.out])
              rw [HSP.out] at hoS
              obtain ⟨rfl, _⟩ := hoS.facts
              have hbwr : Below wo.heap.size wo wr := hb.trans (hbl.mono hb.size)
              have hbao : ba < wo.heap.size := Nat.lt_of_lt_of_le hba hbO.size
              have db9 := (hbwr.cell (p := ⟨ba, oa + (j + 1), none⟩) hbao).trans HDB.out
              have HOS := Lib.hid hoS; clear hoS
              have HOBw := Lib.hid (HOB.out.below hbwr)
              have hspl : (sp a).length ≤ 1600 := by rw [HSA.out]; exact Nat.le_trans (spansL_len _ _) hel
              clear hm3
              go_wp2_with (at_builtin; refine wpList_app _ rfl (.tmp 178) (.tmp 187) _ rfl elemBands RB.vals_len RB.vals_one (base := w5.heap.size) (.slice Ao rs.length co) rs rfl (HOBw.out.alloc _) _ _ 1 1 [⟨a, b, Ao2, (sp a).length, co2⟩] rfl (Sl.lit wr #[.int .i64 a, .int .i64 b, .slice Ao2 (sp a).length co2] 75 [⟨a, b, Ao2, (sp a).length, co2⟩] rfl RB.vals_len) (by omega) (by have := hbw.size; simp; omega) ?_; intro A8 c8 w8 ho8 hg8 hat8
                           have hb8 : Below w5.heap.size w5 w8 := below_grown (hbw.alloc hbw.size _) hg8 (by have := hbw.size; simp; omega) (fun g' e => by
                             rcases HAo.out with ⟨rfl, _⟩ | ⟨g, rfl, hg1, hg2⟩
                             · simp [Value.ownBlock] at e
                             · simp [Value.ownBlock] at e; omega)
                           have HBO8 : Hid (BandsOwn w8 w5.heap.size (rs ++ [⟨a, b, Ao2, (sp a).length, co2⟩]) ((bandsL at_ sp).take (j + 1))) := by
                             rw [HST.out]
                             refine BandsOwn.snoc (HBO.out.map_ fun v ys hv => ((hv.below hbwr).alloc _).grown hg8 (hv.ne HOB.out (by decide))) ⟨rfl, rfl, ?_⟩
                             exact ((HOS.out.base_ hbr.size).alloc _).grown hg8 (HOS.out.ne HOBw.out (by decide))
                           have HO8 := Lib.hid ho8; clear ho8
                           clear hg8 hat8)
              go_roundw
              case rel => exact ⟨j + 1, rs.length + 1, c8, A8, _, .inr (by omega), by go_num, rfl, by omega, HO8.out, HBO8, hb8⟩
              case measure => simp [intOf]; omega
    · as_aux_lemma =>
      have HBA := Lib.hid (bandsL_all (l := at_) (sp := sp) (i := j) (by omega))
      have hbl : (bandsL at_ sp).length ≤ 1600 := by unfold bandsL; rw [List.length_map, pairs_len]; omega
      have HSB := Lib.hid (show ∀ b ∈ bandsL at_ sp, b.sp.length ≤ 1600 from fun b hb => by
        unfold bandsL at hb
        rw [List.mem_map] at hb
        obtain ⟨p, _, rfl⟩ := hb
        simp only
        rw [HSPD.out]
        exact Nat.le_trans (spansL_len _ _) (HEL.out _))
      have HJL := Lib.hid (show (joinL (bandsL at_ sp)).length ≤ 1000000000 from Nat.le_trans (joinL_len _ 1600 HSB.out) (Nat.le_trans (Nat.mul_le_mul_right _ hbl) (by omega)))
      rw [HBA.out] at HBO
      have hrl : rs.length ≤ 10000 := by rw [HBO.out.1]; omega
      have HJ := Lib.hid (join_any Ao rs.length co rs (bandsL at_ sp) wo (HOB.out.sl RB.vals_len) HBO.out.of hrl (fun b hb => by have := HSB.out b hb; omega))
      have HLM := Lib.hid (show limL res = limL (joinL (bandsL at_ sp)) by rw [HCD.out])
      have hbT : Below w.heap.size w wo := HB05.out.trans (hbO.mono HB05.out.size)
      clear hbl
      go_wp2_with (first
        | (go_at_call 61; refine HJ.out.mono ?_; rintro e w6 ⟨A6, c6, rfl, ho6, hb6⟩)
        | (go_at_call 40; refine (rlimited_any w.heap.size A6 _ c6 (joinL (bandsL at_ sp)) _ (ho6.base_ hbT.size) (Nat.le_trans hbT.size hb6.size) HJL.out).mono ?_; rintro e w7 ⟨A7, c7, rfl, ho7, hb7⟩))
      go_ret2
      exact RetOwn2.mk rfl HLM.out ho7 (hbT.trans ((hb6.trans (hb7.mono hb6.size)).mono hbT.size))
end Go.Proofs.YtiefdlfninhbgaaGreatDoor
