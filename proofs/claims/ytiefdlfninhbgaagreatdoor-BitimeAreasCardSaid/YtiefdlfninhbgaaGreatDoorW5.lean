/- Contract of the reference's spans. -/
import Derived.Test.YtiefdlfninhbgaaGreatDoorW4
import Derived.Test.YtiefdlfninhbgaaGreatDoorPl
namespace Go.Proofs.YtiefdlfninhbgaaGreatDoor
open Go.RowKit Go.Shelf

def act (d : Int) (r : Reg) : Bool := r.fr ≤ d && d < r.to
def endsStep (d : Int) (o : List Int) (r : Reg) : List Int := if act d r then insertL (insertL o r.si) r.un else o
def endsL (xs : List Reg) (d : Int) : List Int := xs.foldl (endsStep d) []
theorem endsL_step {xs : List Reg} {j : Nat} {r : Reg} {d : Int} (h : xs[j]? = some r) : endsL (xs.take (j + 1)) d = endsStep d (endsL (xs.take j) d) r := by
  obtain ⟨hj, rfl⟩ := List.getElem?_eq_some_iff.1 h
  unfold endsL; rw [List.take_succ_eq_append_getElem hj, List.foldl_append]; rfl
theorem elemRSpans : ElemT Tryz.prog 72 79 2 16 := elemT_of Tryz.underlying72 (by kernel_rfl) (by decide) (by decide)

set_option maxRecDepth 100000 in
set_option maxHeartbeats 1000000 in
theorem rspans_any (A : Option Addr) (n c : Nat) (xs : List Reg) (d : Int) (w : World) (hr : Rgs w w.heap.size A n xs) (hn : n ≤ 100000000) (f : Int → Bool) (hf : ∀ k, hasL xs d k = f k) :
    Calls Tryz.prog 60 #[.slice A n c, .int .i64 d] w (RetOwn S2 2 79 w.heap.size w (spansL (endsL xs d) f)) := by
  have HF := Lib.hid hf; clear hf
  go_enter Tryz.func60, Tryz.ntmps60
  go_wp2
  go_loopw [6, 7] (fun v i wr => ∃ (j : Nat) (A' : Option Addr) (c' m : Nat), j ≤ n ∧ i = .int .i64 j ∧ v = .slice A' m c' ∧ m ≤ 2 * j ∧ Own I1 1 3 wr w.heap.size (.slice A' m c') (endsL (xs.take j) d) ∧
      Own S2 2 79 wr w.heap.size (.slice (some ⟨w.heap.size, 0, none⟩) 0 0) [] ∧ Below w.heap.size w wr) (fun _ i _ => n - (intOf i).toNat)
  case atStart =>
    refine ⟨0, _, _, 0, Nat.zero_le _, rfl, rfl, Nat.zero_le _, ?_, ?_, ?_⟩
    · have := Own.lit (base := w.heap.size) (w.alloc (.cells #[] 79)) #[] 3 [] rfl I1_len (by simp) (by simp)
      simpa [endsL] using this
    · exact (Own.lit w #[] 79 [] rfl S2_len (Nat.le_refl _) (by simp)).alloc _
    · exact ((Below.refl _ _).alloc (Nat.le_refl _) _).alloc (by simp) _
  case round =>
    obtain ⟨j, A', c', m, hj, rfl, rfl, hm, ho, hos, hb⟩ := hrel
    by_cases hlt : j < n
    · obtain ⟨b, off, r, rfl, hbl, hxj, d0, d1, d2, d3⟩ := (hr.below hb).reg hlt
      have hL := endsL_step (d := d) hxj
      generalize endsL (xs.take j) d = l at *
      obtain ⟨rfl, _⟩ := ho.facts
      have HX := Lib.hid hxj; clear hxj
      have HR := Lib.hid hr; clear hr
      have HO := Lib.hid ho; clear ho
      have HS := Lib.hid hos; clear hos
      by_cases hact : act d r = true
      · have hL' : endsL (xs.take (j + 1)) d = insertL (insertL l r.si) r.un := by rw [hL]; unfold endsStep; rw [if_pos hact]
        have HL := Lib.hid hL'; clear hL hL'
        have hq : r.fr ≤ d ∧ d < r.to := by unfold act at hact; simpa using hact
        obtain ⟨q1, q2⟩ := hq
        clear hact
        have hl1 := insertL_len l r.si
        have hl2 := insertL_len (insertL l r.si) r.un
        go_wp2
        go_region_held3 (fun w' => w'.cell? ⟨b, off + j * 4 + 2, none⟩ = some (.int .i64 r.si) ∧ w'.cell? ⟨b, off + j * 4 + 3, none⟩ = some (.int .i64 r.un))
          (first
            | go_keep
            | exact ⟨(hb1.cell (p := ⟨b, off + j * 4 + 2, none⟩) (by have := hb.size; simp; omega)).trans d2, (hb1.cell (p := ⟨b, off + j * 4 + 3, none⟩) (by have := hb.size; simp; omega)).trans d3⟩
            | exact ⟨((hb1.trans (hb2.mono hb1.size)).cell (p := ⟨b, off + j * 4 + 2, none⟩) (by have := hb.size; simp; omega)).trans d2, ((hb1.trans (hb2.mono hb1.size)).cell (p := ⟨b, off + j * 4 + 3, none⟩) (by have := hb.size; simp; omega)).trans d3⟩)
          (first
            | (go_at_call_of 63 (Value.int .i64 r.si); refine (insert_any w.heap.size A' c' l r.si _ HO.out.drew (by exact hb.size) (by omega)).mono ?_; rintro e w1 ⟨A1, c1, rfl, ho1, hb1⟩)
            | (go_at_call_of 63 (Value.int .i64 r.un); refine (insert_any w.heap.size A1 c1 (insertL l r.si) r.un _ ho1 (by exact Nat.le_trans hb.size hb1.size) (by omega)).mono ?_; rintro e w2 ⟨A2, c2, rfl, ho2, hb2⟩))
        all_goals
          go_wp2
          go_roundw
          case rel => exact ⟨j + 1, A2, c2, _, by omega, by go_num, rfl, by omega, by rw [HL.out]; exact ho2, (HS.out.drew.below hb1).below hb2, hb.drew.trans ((hb1.trans (hb2.mono hb1.size)).mono hb.size)⟩
          case measure => simp [intOf]; omega
      · have hL' : endsL (xs.take (j + 1)) d = l := by rw [hL]; unfold endsStep; rw [if_neg hact]
        have HL := Lib.hid hL'; clear hL hL'
        have hq : ¬ (r.fr ≤ d ∧ d < r.to) := by unfold act at hact; simpa using hact
        clear hact
        have hq2 : d < r.fr ∨ (r.fr ≤ d ∧ r.to ≤ d) := by omega
        clear hq
        rcases hq2 with hq | ⟨hq, hq3⟩
        all_goals
          go_wp2
          go_roundw
          case rel => exact ⟨j + 1, A', c', _, by omega, by go_num, rfl, by omega, by rw [HL.out]; exact HO.out, HS.out, hb⟩
          case measure => simp [intOf]; omega
    · rw [take_all hr.1 (by omega)] at ho
      generalize endsL xs d = l at *
      obtain ⟨rfl, hcl, hcm, _⟩ := ho.facts
      have hm2 : l.length ≤ 2 * n := by omega
      clear hm hcl hcm
      have HR := Lib.hid hr; clear hr
      have HO := Lib.hid ho; clear ho
      have HS := Lib.hid hos; clear hos
      have HB := Lib.hid hb; clear hb
      go_wp2
      go_loopw [5, 8, 9] (fun v i _ w1 => ∃ (j m co : Nat) (Ao : Option Addr), (j = 0 ∨ j + 1 ≤ l.length) ∧ i = .int .i64 j ∧ v = .slice Ao m co ∧ m ≤ j ∧ Own S2 2 79 w1 w.heap.size (.slice Ao m co) (spansTo l f j) ∧
          Own I1 1 3 w1 w.heap.size (.slice A' l.length c') l ∧ Below w.heap.size w w1) (fun _ i _ _ => l.length - (intOf i).toNat)
      case atStart => exact ⟨0, 0, 0, _, .inl rfl, rfl, rfl, Nat.le_refl _, HS.out, HO.out, HB.out⟩
      case round =>
        clear HS HO HB
        rename_i wr0 _ _ _ _
        obtain ⟨j, m, co, Ao, hj, rfl, rfl, hm, hoS, hoE, hb⟩ := hrel
        by_cases hlt : j + 1 < l.length
        · have hsE := hoE.sl I1_len
          obtain ⟨be, oe, a, rfl, hbe, hla, da⟩ := hsE.int (i := j) (by omega)
          obtain ⟨be', oe', b, hA2, _, hlb, db⟩ := hsE.int (i := j + 1) hlt
          injection hA2 with hA2
          injection hA2 with e1 e2
          subst e1; subst e2
          have hst := spansTo_step (f := f) hla hlb
          unfold spanStep at hst
          simp only at hst
          have hfa := HF.out a
          have hll := spansTo_len l f j
          generalize spansTo l f j = o at *
          obtain ⟨rfl, hco, hcm, hAo⟩ := hoS.facts
          have HSE := Lib.hid hsE; clear hsE
          have HOS := Lib.hid hoS; clear hoS
          have HOE := Lib.hid hoE; clear hoE
          have HA := Lib.hid hAo; clear hAo
          have HST := Lib.hid hst; clear hst
          have HLA := Lib.hid hla; clear hla
          have HLB := Lib.hid hlb; clear hlb
          have HFA := Lib.hid hfa; clear hfa
          cases hfv : f a with
          | false =>
            rw [hfv] at HST HFA
            clear hfv
            simp only [Bool.false_eq_true, if_false] at HST
            go_wp2_with (go_at_call 19; refine (rHas_any A n c xs d a _ ((HR.out.below hb).more (by exact hb.size)) (by omega)).mono ?_; rintro e w2 ⟨rfl, hb2⟩; rw [HFA.out])
            go_roundw
            case rel => exact ⟨j + 1, _, co, Ao, .inr (by omega), by go_num, rfl, by omega, by rw [HST.out]; exact HOS.out.below hb2, HOE.out.below hb2, hb.trans (hb2.mono hb.size)⟩
            case measure => simp [intOf]; omega
          | true =>
            rw [hfv] at HST HFA
            clear hfv
            simp only [if_true] at HST
            by_cases hq : o.length = 0
            · obtain rfl : o = [] := List.eq_nil_of_length_eq_zero hq
              clear hq
              simp only [List.length_nil] at *
              go_wp2_with (go_at_call 19; refine (rHas_any A n c xs d a _ ((HR.out.below hb).more (by exact hb.size)) (by omega)).mono ?_; rintro e w2 ⟨rfl, hb2⟩; rw [HFA.out]; have da' := (hb2.cell (p := ⟨be, oe + j, none⟩) hbe).trans da; have db' := (hb2.cell (p := ⟨be, oe + (j + 1), none⟩) hbe).trans db)
              go_quiet (fail)
              have hoS3 := (HOS.out.below hb2).drewN nq
              have hoE3 := (HOE.out.below hb2).drewN nq
              have hb3 := bdN (hb.trans (hb2.mono hb.size)) nq
              have da3 : (w2.drewN nq).cell? ⟨be, oe + j, none⟩ = some (.int .i64 a) := da'
              have db3 : (w2.drewN nq).cell? ⟨be, oe + (j + 1), none⟩ = some (.int .i64 b) := db'
              clear hb2 da' db' da db
              generalize w2.drewN nq = w3 at *
              have HO3 := Lib.hid hoS3; clear hoS3
              have HE3 := Lib.hid hoE3; clear hoE3
              have i1 : (j : Int) < (l.length : Int) := by omega
              have i2 : (j : Int) + 1 < (l.length : Int) := by omega
              have i3 : 0 ≤ (j : Int) + 1 := by omega
              have i4 : IntKind.i64.wrap ((j : Int) + 1) = (j : Int) + 1 := IntWalk.i64_in _ (by omega)
              have i5 : ((j : Int) + 1).toNat = j + 1 := by omega
              go_wp2
              go_region_law (
                (refine step_app _ rfl (.tmp 89) (.tmp 100) _ rfl elemRSpans S2_len S2_one (base := w.heap.size) (.slice Ao 0 co) [] rfl (HO3.out.alloc _).drew _ _ 1 1 [(a, b)] rfl (Sl.lit w3 #[.int .i64 a, .int .i64 b] 79 [(a, b)] rfl S2_len).drew (by simp) (by have := hb3.size; simp; omega) ?_
                 intro A4 c4 w4 ho4 hg4 hat4))
              all_goals
                clear i4 i5
                have hb4 : Below w.heap.size w w4 := below_grown (hb3.alloc hb3.size _).drew hg4 (by have := hb3.size; simp; omega) (fun g' e => by
                  rcases HA.out with ⟨rfl, _⟩ | ⟨g, rfl, hg1, hg2⟩
                  · simp [Value.ownBlock] at e
                  · simp [Value.ownBlock] at e; omega)
                have hE4 := (HE3.out.alloc _).drew.grown hg4 (HE3.out.ne HO3.out (by decide))
                have HE4 := Lib.hid hE4; clear hE4
                have HO4 := Lib.hid ho4; clear ho4
                clear hg4 hat4
                go_wp2
                go_roundw
                case rel =>
                  refine ⟨j + 1, 1, c4, A4, .inr (by omega), by go_num, rfl, by omega, ?_, HE4.out, hb4⟩
                  rw [HST.out, addSpan_new (fun s' hs' => by simp at hs')]
                  exact HO4.out
                case measure => simp [intOf]; omega
            · obtain ⟨q, hq'⟩ : ∃ q, o.length = q + 1 := ⟨o.length - 1, by omega⟩
              rcases HA.out with ⟨_, _, hnil⟩ | ⟨g, rfl, hg1, hg2⟩
              · rw [hnil] at hq; simp at hq
              · clear hq
                obtain ⟨g', o', s, hg', _, hlast, ds1, ds2⟩ := (HOS.out.sl S2_len).span (i := q) (by omega)
                injection hg' with hg'
                injection hg' with e1 e2
                subst e1; subst e2
                rw [hq'] at HOS hco hll ⊢
                have HQ := Lib.hid hq'; clear hq'
                have HLS := Lib.hid hlast; clear hlast
                clear ds1
                simp only [Nat.zero_add] at ds2
                by_cases hsa : s.2 = a
                · have hsb : (s.2 == a) = true := by simp [hsa]
                  have HSA := Lib.hid hsa; clear hsa
                  go_wp2_with (go_at_call 19; refine (rHas_any A n c xs d a _ ((HR.out.below hb).more (by exact hb.size)) (by omega)).mono ?_; rintro e w2 ⟨rfl, hb2⟩; rw [HFA.out]; have da' := (hb2.cell (p := ⟨be, oe + j, none⟩) hbe).trans da; have db' := (hb2.cell (p := ⟨be, oe + (j + 1), none⟩) hbe).trans db; have ds' := (hb2.cell (p := ⟨g, q * 2 + 1, none⟩) hg2).trans ds2; have hfz : w2.frozen? ⟨g, q * 2 + 1, none⟩ = false := (HOS.out.below hb2).frozen _)
                  go_quiet (fail)
                  go_wp2
                  go_roundw
                  case rel =>
                    refine ⟨j + 1, q + 1, co, some ⟨g, 0, none⟩, .inr (by omega), by go_num, rfl, by omega, ?_, ?_, ?_⟩
                    · rw [HST.out, addSpan_join (s := s) (by rw [HQ.out]; exact HLS.out) HSA.out, HQ.out]
                      exact ((HOS.out.below hb2).drewN nq).set_ S2_len (i := q) (j := 1) (x := s) HLS.out (by decide) rfl
                    · refine ((HOE.out.below hb2).drewN nq).far ?_ _
                      have hne := (HOE.out).ne HOS.out (by decide)
                      rcases hne with hne | hne
                      · simp [Value.ownBlock] at hne
                      · intro hh; apply hne; rw [hh]; rfl
                    · exact (bdN (hb.trans (hb2.mono hb.size)) nq).setCell (p := ⟨g, q * 2 + 1, none⟩) hg1 _
                  case measure => simp [intOf]; omega
                · have hsb : (s.2 == a) = false := by simp [hsa]
                  have HSA := Lib.hid hsa; clear hsa
                  go_wp2_with (go_at_call 19; refine (rHas_any A n c xs d a _ ((HR.out.below hb).more (by exact hb.size)) (by omega)).mono ?_; rintro e w2 ⟨rfl, hb2⟩; rw [HFA.out]; have da' := (hb2.cell (p := ⟨be, oe + j, none⟩) hbe).trans da; have db' := (hb2.cell (p := ⟨be, oe + (j + 1), none⟩) hbe).trans db; have ds' := (hb2.cell (p := ⟨g, q * 2 + 1, none⟩) hg2).trans ds2)
                  go_quiet (fail)
                  have hoS3 := (HOS.out.below hb2).drewN nq
                  have hoE3 := (HOE.out.below hb2).drewN nq
                  have hb3 := bdN (hb.trans (hb2.mono hb.size)) nq
                  have da3 : (w2.drewN nq).cell? ⟨be, oe + j, none⟩ = some (.int .i64 a) := da'
                  have db3 : (w2.drewN nq).cell? ⟨be, oe + (j + 1), none⟩ = some (.int .i64 b) := db'
                  clear hb2 da' db' ds' da db ds2
                  generalize w2.drewN nq = w3 at *
                  have HO3 := Lib.hid hoS3; clear hoS3
                  have HE3 := Lib.hid hoE3; clear hoE3
                  have i1 : (j : Int) < (l.length : Int) := by omega
                  have i2 : (j : Int) + 1 < (l.length : Int) := by omega
                  have i3 : 0 ≤ (j : Int) + 1 := by omega
                  have i4 : IntKind.i64.wrap ((j : Int) + 1) = (j : Int) + 1 := IntWalk.i64_in _ (by omega)
                  have i5 : ((j : Int) + 1).toNat = j + 1 := by omega
                  have HI4 := Lib.hid i4; have HI5 := Lib.hid i5
                  go_wp2
                  go_region_law (
                    (refine step_app _ rfl (.tmp 89) (.tmp 100) _ rfl elemRSpans S2_len S2_one (base := w.heap.size) (.slice (some ⟨g, 0, none⟩) (q + 1) co) o rfl (HO3.out.alloc _).drew _ _ 1 1 [(a, b)] rfl (Sl.lit w3 #[.int .i64 a, .int .i64 b] 79 [(a, b)] rfl S2_len).drew (by omega) (by have := hb3.size; simp; omega) ?_
                     intro A4 c4 w4 ho4 hg4 hat4))
                  all_goals
                    clear i4 i5
                    have hb4 : Below w.heap.size w w4 := below_grown (hb3.alloc hb3.size _).drew hg4 (by have := hb3.size; simp; omega) (fun g' e => by simp [Value.ownBlock] at e; omega)
                    have hE4 := (HE3.out.alloc _).drew.grown hg4 (HE3.out.ne HO3.out (by decide))
                    have HE4 := Lib.hid hE4; clear hE4
                    have HO4 := Lib.hid ho4; clear ho4
                    clear hg4 hat4
                    go_wp2
                    go_roundw
                    case rel =>
                      refine ⟨j + 1, o.length + 1, c4, A4, .inr (by omega), by go_num, rfl, by have := HQ.out; omega, ?_, HE4.out, hb4⟩
                      rw [HST.out, addSpan_new (fun s' hs' => by rw [HQ.out] at hs'; rw [show q + 1 - 1 = q from rfl, HLS.out] at hs'; injection hs' with hs'; rw [← hs']; exact HSA.out)]
                      exact HO4.out
                    case measure => simp [intOf]; omega
        · have HSP := Lib.hid (spansTo_all (f := f) (i := j) (by omega : l.length ≤ j + 1))
          have HOS := Lib.hid hoS; clear hoS
          clear hoE
          go_wp2
          go_ret
          refine RetOwn.mk rfl ?_ hb
          rw [← HSP.out]
          exact HOS.out
end Go.Proofs.YtiefdlfninhbgaaGreatDoor
