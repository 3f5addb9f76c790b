/- Contract of the reference's join. -/
import Derived.Test.YtiefdlfninhbgaaGreatDoorW5
import Derived.Test.YtiefdlfninhbgaaGreatDoorPl2
import Derived.Test.YtiefdlfninhbgaaGreatDoorEq
namespace Go.Proofs.YtiefdlfninhbgaaGreatDoor
open Go.RowKit Go.Shelf

theorem elemBands : ElemT Tryz.prog 71 75 3 40 := elemT_of Tryz.underlying71 (by kernel_rfl) (by decide) (by decide)
theorem joinTo_step {rs : List Band} {j : Nat} {r : Band} (h : rs[j]? = some r) : (rs.take (j + 1)).flatMap bandRegs = (rs.take j).flatMap bandRegs ++ bandRegs r := by
  obtain ⟨hj, rfl⟩ := List.getElem?_eq_some_iff.1 h
  rw [List.take_succ_eq_append_getElem hj, List.flatMap_append]; simp
theorem bandTo_step {r : Band} {i : Nat} {s : Span} (h : r.sp[i]? = some s) : (bandRegs r).take (i + 1) = (bandRegs r).take i ++ [⟨r.fr, r.to, s.1, s.2⟩] := by
  have h' : (bandRegs r)[i]? = some ⟨r.fr, r.to, s.1, s.2⟩ := by unfold bandRegs; rw [List.getElem?_map, h]; rfl
  obtain ⟨hj, he⟩ := List.getElem?_eq_some_iff.1 h'
  rw [List.take_succ_eq_append_getElem hj, he]

set_option maxRecDepth 100000 in
set_option maxHeartbeats 2000000 in
theorem join_any (A : Option Addr) (n c : Nat) (ls : List RB) (bs : List Band) (w : World) (hr : Sl RB.vals 3 w w.heap.size A n ls) (hbs : BandsOf w w.heap.size ls bs) (hn : n ≤ 10000) (hsp : ∀ b ∈ bs, b.sp.length ≤ 10000) :
    Calls Tryz.prog 61 #[.slice A n c] w (RetOwn Reg.vals 4 35 w.heap.size w (joinL bs)) := by
  have HSP := Lib.hid hsp; clear hsp
  have HBS := Lib.hid hbs; clear hbs
  go_enter Tryz.func61, Tryz.ntmps61
  go_wp2
  go_loopw [4, 5, 6] (fun v i _ wr => ∃ (j : Nat) (A' : Option Addr) (c' m : Nat) (rs : List RB), j ≤ n ∧ i = .int .i64 j ∧ v = .slice A' m c' ∧ m ≤ j ∧ Own RB.vals 3 75 wr w.heap.size (.slice A' m c') rs ∧
      Hid (BandsOf w w.heap.size rs (runsL (bs.take j))) ∧ Own Reg.vals 4 35 wr w.heap.size (.slice (some ⟨w.heap.size, 0, none⟩) 0 0) [] ∧ Below w.heap.size w wr) (fun _ i _ _ => n - (intOf i).toNat)
  case atStart =>
    refine ⟨0, _, _, 0, [], Nat.zero_le _, rfl, rfl, Nat.zero_le _, ?_, BandsOf.nil, ?_, ?_⟩
    · have := Own.lit (base := w.heap.size) (w.alloc (.cells #[] 35)) #[] 75 [] rfl RB.vals_len (by simp) (by simp)
      simpa using this
    · exact (Own.lit w #[] 35 [] rfl Reg.vals_len (Nat.le_refl _) (by simp)).alloc _
    · exact ((Below.refl _ _).alloc (Nat.le_refl _) _).alloc (by simp) _
  case round =>
    obtain ⟨j, A', c', m, rs, hj, rfl, rfl, hm, ho, HBR, hos, hb⟩ := hrel
    by_cases hlt : j < n
    · obtain ⟨b, off, r, rfl, hbl, hxj, d0, d1, d2⟩ := (hr.below hb).band hlt
      obtain ⟨bd, hbd, e1, e2, hsp⟩ := HBS.out.at_ hxj
      have hL := runsL_step hbd
      have HLSP := Lib.hid (show ∀ b ∈ runsL (bs.take j), b.sp.length ≤ 10000 from fun b hb => by
        obtain ⟨y, hy, e⟩ := runsL_sp _ b hb
        rw [e]; exact HSP.out y (List.mem_of_mem_take hy))
      generalize runsL (bs.take j) = l at *
      obtain ⟨rfl, hc1, hc2, hA⟩ := ho.facts
      have HX := Lib.hid hxj; clear hxj
      have HR := Lib.hid hr; clear hr
      have HO := Lib.hid ho; clear ho
      have HS := Lib.hid hos; clear hos
      have HL := Lib.hid hL; clear hL
      have HE1 := Lib.hid e1; have HE2 := Lib.hid e2; have HSPj := Lib.hid hsp; clear e1 e2 hsp
      have HBD := Lib.hid hbd; clear hbd
      have HA := Lib.hid hA; clear hA
      have hltz : (j : Int) < (n : Int) := by omega
      have hspl : r.n ≤ 10000 := by rw [HSPj.out.1]; exact HSP.out bd (List.mem_of_getElem? HBD.out)
      have hrl : rs.length ≤ j := hm
      by_cases hq : rs.length = 0
      · obtain rfl : rs = [] := List.eq_nil_of_length_eq_zero hq
        clear hq
        simp only [List.length_nil] at *
        have HG := Lib.hid (show ∀ g, (Value.slice A' 0 c').ownBlock = some g → w.heap.size ≤ g from fun g' e => by
          rcases HA.out with ⟨rfl, _⟩ | ⟨g, rfl, hg1, hg2⟩
          · simp [Value.ownBlock] at e
          · simp [Value.ownBlock] at e; omega)
        go_wp2
        go_quiet (fail)
        go_wp2_with (at_builtin; refine wpList_app _ rfl (.tmp 60) (.tmp 65) _ rfl elemBands RB.vals_len RB.vals_one (base := w.heap.size) (.slice A' 0 c') [] rfl ((HO.out.drewN nq).alloc _) _ _ 1 1 [r] rfl (Sl.lit _ #[.int .i64 r.fr, .int .i64 r.to, .slice r.A r.n r.c] 75 [r] rfl RB.vals_len) (by simp; try omega) (by have := hb.size; simp; omega) ?_; intro A4 c4 w4 ho4 hg4 hat4)
        go_roundw
        case rel =>
          refine ⟨j + 1, A4, c4, _, _, by omega, by go_num, rfl, by simp; try omega, ho4, ?_, ((HS.out.drewN nq).alloc _).grown hg4 (HS.out.ne HO.out (by decide)), ?_⟩
          · rw [HL.out, addRun_new (fun s' hs' => by rw [List.eq_nil_of_length_eq_zero HBR.out.1.symm] at hs'; simp at hs')]
            exact HBR.out.snoc ⟨HE1.out, HE2.out, HSPj.out⟩
          · exact below_grown ((bdN hb nq).alloc (by exact hb.size) _) hg4 (by have := hb.size; simp; omega) (HG.out)
        case measure => simp [intOf]; omega
      · obtain ⟨q, hq'⟩ : ∃ q, rs.length = q + 1 := ⟨rs.length - 1, by omega⟩
        rcases HA.out with ⟨_, _, hnil⟩ | ⟨g, rfl, hg1, hg2⟩
        · rw [hnil] at hq; simp at hq
        · clear hq
          obtain ⟨g', o', s, hg', _, hlast, ds0, ds1, ds2⟩ := (HO.out.sl RB.vals_len).band (i := q) (by omega)
          injection hg' with hg'
          injection hg' with e1 e2
          subst e1; subst e2
          obtain ⟨sb, hsb, es1, es2, hssp⟩ := HBR.out.at_ hlast
          have hll : l.length = q + 1 := by rw [← HBR.out.1]; exact hq'
          have HSB := Lib.hid (show l[l.length - 1]? = some sb by rw [hll]; exact hsb)
          have HSBq := Lib.hid hsb
          rw [hq'] at HO hc1 hm ⊢
          have HQ := Lib.hid hq'; clear hq' hsb
          have HLL := Lib.hid hll; clear hll
          have HLS := Lib.hid hlast; clear hlast
          have HS1 := Lib.hid es1; have HS2 := Lib.hid es2; have HSS := Lib.hid hssp; clear es1 es2 hssp
          simp only [Nat.zero_add] at ds0 ds1 ds2
          have hspl2 : s.n ≤ 10000 := by rw [HSS.out.1]; exact HLSP.out sb (List.mem_of_getElem? HSBq.out)
          have HG := Lib.hid (show ∀ g', (Value.slice (some ⟨g, 0, none⟩) (q + 1) c').ownBlock = some g' → w.heap.size ≤ g' from fun g' e => by simp [Value.ownBlock] at e; omega)
          by_cases hsa : s.to = r.fr
          · have hsb : (s.to == r.fr) = true := by simp [hsa]
            have HSA := Lib.hid hsa; clear hsa
            by_cases hse : sb.sp = bd.sp
            · have HSE := Lib.hid hse
              have hdec : decide (sb.sp = bd.sp) = true := by simp [hse]
              clear hse
              have hfz : wr.frozen? ⟨g, q * 3 + 1, none⟩ = false := HO.out.frozen _
              go_wp2
              go_quiet ((go_at_call 81; refine (rsame_any _ _ _ _ _ _ sb.sp bd.sp _ ?_ ?_ (by omega) (by omega)).mono ?_; exact ((HSS.out.below hb).drewN _).more hb.size; exact ((HSPj.out.below hb).drewN _).more hb.size; rintro e w' ⟨rfl, q', rfl⟩; rw [hdec]; exact ⟨rfl, _, World.drewN_drewN _ _ _⟩))
              go_wp2
              go_roundw
              case rel =>
                refine ⟨j + 1, some ⟨g, 0, none⟩, c', q + 1, rs.set q { s with to := r.to }, by omega, by go_num, rfl, by omega, ?_, ?_, ?_, ?_⟩
                · exact (HO.out.drewN nq).set_ RB.vals_len (i := q) (j := 1) (x := s) HLS.out (by decide) rfl
                · rw [HL.out, addRun_join HSB.out (by rw [← HS2.out, HSA.out, HE1.out]) HSE.out, HLL.out]
                  exact HBR.out.set_ ⟨HS1.out, HE2.out, HSS.out⟩
                · refine (HS.out.drewN nq).far ?_ _
                  rcases (HS.out).ne HO.out (by decide) with hne | hne
                  · simp [Value.ownBlock] at hne
                  · exact hne
                · exact (bdN hb nq).setCell (p := ⟨g, q * 3 + 1, none⟩) hg1 _
              case measure => simp [intOf]; omega
            · have HSE := Lib.hid hse
              have hdec : decide (sb.sp = bd.sp) = false := by simp [hse]
              clear hse
              go_wp2
              go_quiet ((go_at_call 81; refine (rsame_any _ _ _ _ _ _ sb.sp bd.sp _ ?_ ?_ (by omega) (by omega)).mono ?_; exact ((HSS.out.below hb).drewN _).more hb.size; exact ((HSPj.out.below hb).drewN _).more hb.size; rintro e w' ⟨rfl, q', rfl⟩; rw [hdec]; exact ⟨rfl, _, World.drewN_drewN _ _ _⟩))
              go_wp2_with (at_builtin; refine wpList_app _ rfl (.tmp 60) (.tmp 65) _ rfl elemBands RB.vals_len RB.vals_one (base := w.heap.size) (.slice (some ⟨g, 0, none⟩) (q + 1) c') rs rfl ((HO.out.drewN nq).alloc _) _ _ 1 1 [r] rfl (Sl.lit _ #[.int .i64 r.fr, .int .i64 r.to, .slice r.A r.n r.c] 75 [r] rfl RB.vals_len) (by simp; try omega) (by have := hb.size; simp; omega) ?_; intro A4 c4 w4 ho4 hg4 hat4)
              go_roundw
              case rel =>
                refine ⟨j + 1, A4, c4, _, _, by omega, by go_num, rfl, by simp; try omega, ho4, ?_, ((HS.out.drewN nq).alloc _).grown hg4 (HS.out.ne HO.out (by decide)), ?_⟩
                · rw [HL.out, addRun_new (fun s' hs' => by rw [HSB.out] at hs'; injection hs' with hs'; subst hs'; rintro ⟨_, hh⟩; exact HSE.out hh)]
                  exact HBR.out.snoc ⟨HE1.out, HE2.out, HSPj.out⟩
                · exact below_grown ((bdN hb nq).alloc (by exact hb.size) _) hg4 (by have := hb.size; simp; omega) (HG.out)
              case measure => simp [intOf]; omega
          · have hsb : (s.to == r.fr) = false := by simp [hsa]
            have HSA := Lib.hid hsa; clear hsa
            go_wp2
            go_quiet (fail)
            go_wp2_with (at_builtin; refine wpList_app _ rfl (.tmp 60) (.tmp 65) _ rfl elemBands RB.vals_len RB.vals_one (base := w.heap.size) (.slice (some ⟨g, 0, none⟩) (q + 1) c') rs rfl ((HO.out.drewN nq).alloc _) _ _ 1 1 [r] rfl (Sl.lit _ #[.int .i64 r.fr, .int .i64 r.to, .slice r.A r.n r.c] 75 [r] rfl RB.vals_len) (by simp; try omega) (by have := hb.size; simp; omega) ?_; intro A4 c4 w4 ho4 hg4 hat4)
            go_roundw
            case rel =>
              refine ⟨j + 1, A4, c4, _, _, by omega, by go_num, rfl, by simp; try omega, ho4, ?_, ((HS.out.drewN nq).alloc _).grown hg4 (HS.out.ne HO.out (by decide)), ?_⟩
              · rw [HL.out, addRun_new (fun s' hs' => by rw [HSB.out] at hs'; injection hs' with hs'; subst hs'; rintro ⟨hh, _⟩; exact HSA.out (by rw [HS2.out, hh, ← HE1.out]))]
                exact HBR.out.snoc ⟨HE1.out, HE2.out, HSPj.out⟩
              · exact below_grown ((bdN hb nq).alloc (by exact hb.size) _) hg4 (by have := hb.size; simp; omega) (HG.out)
            case measure => simp [intOf]; omega
    · rw [List.take_of_length_le (by have := HBS.out.1; have := hr.1; omega)] at HBR
      have HBSl := Lib.hid (show ∀ b ∈ runsL bs, b.sp.length ≤ 10000 from fun b hb => by
        obtain ⟨y, hy, e⟩ := runsL_sp _ b hb
        rw [e]; exact HSP.out y hy)
      have HJ := Lib.hid (show (runsL bs).flatMap bandRegs = joinL bs from rfl)
      generalize runsL bs = l at *
      obtain ⟨rfl, hc1, hc2, hA⟩ := ho.facts
      have hrl : rs.length ≤ 10000 := by omega
      have HO := Lib.hid ho; clear ho
      have HS := Lib.hid hos; clear hos
      have HB := Lib.hid hb; clear hb
      clear hA hc1 hc2
      go_wp2
      go_loopw [3, 7, 8, 9] (fun v i _ _ w1 => ∃ (p m co : Nat) (Ao : Option Addr), p ≤ rs.length ∧ i = .int .i64 p ∧ v = .slice Ao m co ∧ m ≤ p * 10000 ∧ Own Reg.vals 4 35 w1 w.heap.size (.slice Ao m co) ((l.take p).flatMap bandRegs) ∧
          Own RB.vals 3 75 w1 w.heap.size (.slice A' rs.length c') rs ∧ Below w.heap.size w w1) (fun _ i _ _ _ => rs.length - (intOf i).toNat)
      case atStart => exact ⟨0, 0, 0, _, Nat.zero_le _, rfl, rfl, Nat.zero_le _, HS.out, HO.out, HB.out⟩
      case round =>
        clear HS HO HB
        obtain ⟨p, m, co, Ao, hp, rfl, rfl, hm2, hoO, hoR, hb⟩ := hrel
        by_cases hlt2 : p < rs.length
        · obtain ⟨b, off, r, hAr, hbl, hxp, e0, e1, e2⟩ := (hoR.sl RB.vals_len).band hlt2
          obtain ⟨bd, hbd, f1, f2, hspB⟩ := HBR.out.at_ hxp
          have hstep := joinTo_step hbd
          have hspl : r.n ≤ 10000 := by rw [hspB.1]; exact HBSl.out bd (List.mem_of_getElem? hbd)
          generalize (l.take p).flatMap bandRegs = pre at *
          subst hAr
          have hpre : pre.length ≤ p * 10000 := by have := hoO.facts.1; omega
          have HST := Lib.hid hstep; clear hstep
          have HF1 := Lib.hid f1; have HF2 := Lib.hid f2; have HSPB := Lib.hid hspB; clear f1 f2 hspB
          have HXP := Lib.hid hxp; have HBD := Lib.hid hbd; clear hxp hbd
          have HOO := Lib.hid hoO; have HOR := Lib.hid hoR; clear hoO hoR
          have HB := Lib.hid hb; clear hb
          clear e0 e1 e2
          go_wp2
          go_loopw [3, 8, 9] (fun v k _ w2 => ∃ (q m2 co2 : Nat) (Ao2 : Option Addr), q ≤ r.n ∧ k = .int .i64 q ∧ v = .slice Ao2 m2 co2 ∧ m2 ≤ p * 10000 + q ∧ Own Reg.vals 4 35 w2 w.heap.size (.slice Ao2 m2 co2) (pre ++ (bandRegs bd).take q) ∧
              Own RB.vals 3 75 w2 w.heap.size (.slice (some ⟨b, off, none⟩) rs.length c') rs ∧ Below w.heap.size w w2) (fun _ k _ _ => r.n - (intOf k).toNat)
          case atStart => exact ⟨0, m, co, Ao, Nat.zero_le _, rfl, rfl, by omega, by simpa using HOO.out, HOR.out, HB.out⟩
          case round =>
            clear HOO HOR HB
            rename_i wr2 _ _ _
            obtain ⟨q, m2, co2, Ao2, hq, rfl, rfl, hm3, hoO, hoR, hb⟩ := hrel
            obtain ⟨b', off', r', hAr, hbl, hxp, e0, e1, e2⟩ := (hoR.sl RB.vals_len).band hlt2
            injection hAr with hAr
            injection hAr with g1 g2
            subst g1; subst g2
            rw [HXP.out] at hxp
            injection hxp with hxp
            subst hxp
            by_cases hlt3 : q < r.n
            · obtain ⟨b2, o2, sp, hsA, hb2, hsq, d0, d1⟩ := (HSPB.out.below hb).span hlt3
              have HSTQ := Lib.hid (bandTo_step hsq)
              obtain ⟨r0, r1, rA, rn, rc⟩ := r
              simp only at *
              subst hsA
              generalize hpq : pre ++ (bandRegs bd).take q = pq at *
              have HPQ := Lib.hid hpq; clear hpq
              obtain ⟨rfl, _, _, hAo⟩ := hoO.facts
              have HAo := Lib.hid hAo; clear hAo
              have HOO := Lib.hid hoO; have HOR := Lib.hid hoR; clear hoO hoR
              have HSQ := Lib.hid hsq; clear hsq
              have hbs := hb.size
              go_wp2
              have hne : b ≠ wr.heap.size := by omega
              have c0 : (wr.alloc (.cells #[.int .i64 sp.1, .int .i64 sp.2] 79)).cell? ⟨wr.heap.size, 0, none⟩ = some (.int .i64 sp.1) := by simp
              have c1 : (wr.alloc (.cells #[.int .i64 sp.1, .int .i64 sp.2] 79)).cell? ⟨wr.heap.size, 1, none⟩ = some (.int .i64 sp.2) := by simp
              have e0' := (((Below.refl wr.heap.size wr).alloc (Nat.le_refl _) (.cells #[.int .i64 sp.1, .int .i64 sp.2] 79)).cell (p := ⟨b, off + p * 3, none⟩) hbl).trans e0
              have e1' := (((Below.refl wr.heap.size wr).alloc (Nat.le_refl _) (.cells #[.int .i64 sp.1, .int .i64 sp.2] 79)).cell (p := ⟨b, off + p * 3 + 1, none⟩) hbl).trans e1
              have hoO1 := HOO.out.alloc (.cells #[.int .i64 sp.1, .int .i64 sp.2] 79)
              have hoR1 := HOR.out.alloc (.cells #[.int .i64 sp.1, .int .i64 sp.2] 79)
              have hb1 := hb.alloc hb.size (.cells #[.int .i64 sp.1, .int .i64 sp.2] 79)
              clear e0 e1 e2 d0 d1 hb HOO HOR
              generalize wr.alloc (.cells #[.int .i64 sp.1, .int .i64 sp.2] 79) = w3 at *
              have HO3 := Lib.hid hoO1; have HR3 := Lib.hid hoR1; clear hoO1 hoR1
              have i1 : (p : Int) < (rs.length : Int) := by omega
              go_region_law (
                (refine step_app _ rfl (.tmp 91) (.tmp 107) _ rfl elemRegs Reg.vals_len Reg.vals_one (base := w.heap.size) (.slice Ao2 pq.length co2) pq rfl (HO3.out.alloc _).drew _ _ 1 1 [⟨r0, r1, sp.1, sp.2⟩] rfl (Sl.lit w3 #[.int .i64 r0, .int .i64 r1, .int .i64 sp.1, .int .i64 sp.2] 35 [⟨r0, r1, sp.1, sp.2⟩] rfl Reg.vals_len).drew (by omega) (by have := hb1.size; simp; omega) ?_
                 intro A4 c4 w4 ho4 hg4 hat4))
              all_goals
                have hb4 : Below w.heap.size w w4 := below_grown (hb1.alloc hb1.size _).drew hg4 (by have := hb1.size; simp; omega) (fun g' e => by
                  rcases HAo.out with ⟨rfl, _⟩ | ⟨g, rfl, hg1, hg2⟩
                  · simp [Value.ownBlock] at e
                  · simp [Value.ownBlock] at e; omega)
                have hR4 := (HR3.out.alloc _).drew.grown hg4 (HR3.out.ne HO3.out (by decide))
                have HR4 := Lib.hid hR4; clear hR4
                have HO4 := Lib.hid ho4; clear ho4
                clear hg4 hat4
                go_wp2
                go_roundw
                case rel =>
                  refine ⟨q + 1, pq.length + 1, c4, A4, by omega, by go_num, rfl, by omega, ?_, HR4.out, hb4⟩
                  rw [HSTQ.out, ← List.append_assoc, HPQ.out, ← HF1.out, ← HF2.out]
                  exact HO4.out
                case measure => simp [intOf]; omega
            · have HSTP := Lib.hid (show pre ++ (bandRegs bd).take q = (l.take (p + 1)).flatMap bandRegs by
                rw [HST.out, List.take_of_length_le (by unfold bandRegs; have := HSPB.out.1; simp; omega)])
              have HOO := Lib.hid hoO; have HOR := Lib.hid hoR; clear hoO hoR
              go_wp2
              go_roundw
              case rel =>
                refine ⟨p + 1, m2, co2, Ao2, by omega, by go_num, rfl, by omega, ?_, HOR.out, hb⟩
                rw [← HSTP.out]
                exact HOO.out
              case measure => simp [intOf]; omega
        · have HOO := Lib.hid hoO; clear hoO
          clear hoR
          go_wp2
          go_ret
          refine RetOwn.mk rfl ?_ hb
          rw [← HJ.out]
          have := HOO.out
          rwa [List.take_of_length_le (by rw [← HBR.out.1]; omega)] at this
end Go.Proofs.YtiefdlfninhbgaaGreatDoor
