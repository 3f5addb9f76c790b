/- Contract of the program's spans. -/
import Derived.Test.YtiefdlfninhbgaaGreatDoorW2
import Derived.Test.YtiefdlfninhbgaaGreatDoorPl
import Derived.Deep.RegionLaw
namespace Go.Proofs.YtiefdlfninhbgaaGreatDoor
open Go.RowKit Go.Shelf

theorem elemSpans : ElemT Tryz.prog 101 109 2 16 := elemT_of Tryz.underlying101 (by kernel_rfl) (by decide) (by decide)

/-- What is asked of a predicate on numbers that may lay blocks of its own. -/
def PredI (g : Nat) (lb : Array Value) (p : Int → Bool) (w : World) : Prop :=
  ∀ (W : World) (x : Int), Below w.heap.size w W → Calls Tryz.prog g (#[.int .i64 x] ++ lb) W fun e w' => e = .returned (.bool (p x)) ∧ Below W.heap.size W w'

set_option maxRecDepth 100000 in
set_option maxHeartbeats 1000000 in
theorem spans_any (A : Option Addr) (n c : Nat) (l : List Int) (g : Nat) (lb : Array Value) (f : Int → Bool) (w : World) (eg : ∀ args w, (callFunc g args).run Tryz.prog w = .ok (.enter g args) w)
    (hp : PredI g lb f w) (hr : Ints w w.heap.size A n l) (hn : n ≤ 100000000) :
    Calls Tryz.prog 78 #[.slice A n c, .func (.func g) #[] lb] w (RetOwn S2 2 109 w.heap.size w (spansL l f)) := by
  have HP := Lib.hid hp; clear hp
  go_enter Tryz.func78, Tryz.ntmps78
  go_wp2
  go_loopw [5, 6, 7] (fun v i _ wr => ∃ (j m co : Nat) (Ao : Option Addr), (j = 0 ∨ j + 1 ≤ n) ∧ i = .int .i64 ((j : Int) + 1) ∧ v = .slice Ao m co ∧ m ≤ j ∧ Own S2 2 109 wr w.heap.size (.slice Ao m co) (spansTo l f j) ∧ Below w.heap.size w wr) (fun _ i _ _ => n - (intOf i).toNat)
  case atStart => exact ⟨0, 0, 0, _, .inl rfl, rfl, rfl, Nat.le_refl _, Own.nil, Below.refl _ _⟩
  case round =>
    obtain ⟨j, m, co, Ao, hj, rfl, rfl, hm, hoS, hb⟩ := hrel
    have hnl := hr.1
    by_cases hlt : j + 1 < n
    · obtain ⟨be, oe, a, hA1, hbe, hla, da0⟩ := hr.int (i := j) (by omega)
      obtain ⟨be', oe', b, hA2, _, hlb, db0⟩ := hr.int (i := j + 1) hlt
      subst hA1
      injection hA2 with hA2
      injection hA2 with e1 e2
      subst e1; subst e2
      have da := (hb.cell (p := ⟨be, oe + j, none⟩) hbe).trans da0
      have db := (hb.cell (p := ⟨be, oe + (j + 1), none⟩) hbe).trans db0
      have HST := Lib.hid (spansTo_step (f := f) hla hlb)
      unfold spanStep at HST
      simp only at HST
      generalize spansTo l f j = o at *
      obtain ⟨rfl, hco, hcm, hAo⟩ := hoS.facts
      have HOS := Lib.hid hoS; clear hoS
      have HA := Lib.hid hAo; clear hAo
      have HR := Lib.hid hr; clear hr
      have HNL := Lib.hid hnl; clear hnl
      clear hla hlb da0 db0
      have HC := Lib.hid (HP.out wr a hb)
      clear HP
      have hbs := hb.size
      have hbe2 : be < wr.heap.size := by omega
      have i1 : (j : Int) < (n : Int) := by omega
      have i2 : (j : Int) + 1 < (n : Int) := by omega
      cases hfv : f a with
      | false =>
        rw [hfv] at HST HC
        clear hfv
        simp only [Bool.false_eq_true, if_false] at HST
        go_wp2_with (go_at_fn g; refine HC.out.mono ?_; rintro e w2 ⟨rfl, hb2⟩)
        go_roundw
        case rel => exact ⟨j + 1, _, co, Ao, .inr (by omega), by go_num, rfl, by omega, by rw [HST.out]; exact HOS.out.below hb2, hb.trans (hb2.mono hb.size)⟩
        case measure => simp [intOf]; omega
      | true =>
        rw [hfv] at HST HC
        clear hfv
        simp only [if_true] at HST
        by_cases hq : o.length = 0
        · obtain rfl : o = [] := List.eq_nil_of_length_eq_zero hq
          clear hq
          simp only [List.length_nil] at *
          go_wp2_with (go_at_fn g; refine HC.out.mono ?_; rintro e w2 ⟨rfl, hb2⟩; have da' := (hb2.cell (p := ⟨be, oe + j, none⟩) hbe2).trans da; have db' := (hb2.cell (p := ⟨be, oe + (j + 1), none⟩) hbe2).trans db)
          go_quiet (fail)
          have hoS3 := (HOS.out.below hb2).drewN nq
          have hb3 := bdN (hb.trans (hb2.mono hb.size)) nq
          have da3 : (w2.drewN nq).cell? ⟨be, oe + j, none⟩ = some (.int .i64 a) := da'
          have db3 : (w2.drewN nq).cell? ⟨be, oe + (j + 1), none⟩ = some (.int .i64 b) := db'
          clear hb2 da' db' da db
          generalize w2.drewN nq = w3 at *
          have HO3 := Lib.hid hoS3; clear hoS3
          have i3 : 0 ≤ (j : Int) + 1 := by omega
          have i4 : IntKind.i64.wrap (j : Int) = (j : Int) := IntWalk.i64_in _ (by omega)
          have i5 : ((j : Int) + 1).toNat = j + 1 := by omega
          go_wp2
          go_region_law (
            (refine step_app _ rfl (.tmp 48) (.tmp 59) _ rfl elemSpans S2_len S2_one (base := w.heap.size) (.slice Ao 0 co) [] rfl (HO3.out.alloc _).drew _ _ 1 1 [(a, b)] rfl (Sl.lit w3 #[.int .i64 a, .int .i64 b] 109 [(a, b)] rfl S2_len).drew (by simp) (by have := hb3.size; simp; omega) ?_
             intro A4 c4 w4 ho4 hg4 hat4))
          all_goals
            clear i4 i5
            have hb4 : Below w.heap.size w w4 := below_grown (hb3.alloc hb3.size _).drew hg4 (by have := hb3.size; simp; omega) (fun g' e => by
              rcases HA.out with ⟨rfl, _⟩ | ⟨g, rfl, hg1, hg2⟩
              · simp [Value.ownBlock] at e
              · simp [Value.ownBlock] at e; omega)
            have HO4 := Lib.hid ho4; clear ho4
            clear hg4 hat4
            go_wp2
            go_roundw
            case rel =>
              refine ⟨j + 1, 1, c4, A4, .inr (by omega), by go_num, rfl, by omega, ?_, hb4⟩
              rw [HST.out, addSpan_new (fun s' hs' => by simp at hs')]
              exact HO4.out
            case measure => simp [intOf]; omega
        · obtain ⟨q, hq'⟩ : ∃ q, o.length = q + 1 := ⟨o.length - 1, by omega⟩
          rcases HA.out with ⟨_, _, hnil⟩ | ⟨gb, rfl, hg1, hg2⟩
          · rw [hnil] at hq; simp at hq
          · clear hq
            obtain ⟨g', o', s, hg', _, hlast, ds1, ds2⟩ := (HOS.out.sl S2_len).span (i := q) (by omega)
            injection hg' with hg'
            injection hg' with e1 e2
            subst e1; subst e2
            rw [hq'] at HOS hco hm ⊢
            have HQ := Lib.hid hq'; clear hq'
            have HLS := Lib.hid hlast; clear hlast
            clear ds1
            simp only [Nat.zero_add] at ds2
            have HA2 := HA
            clear HA
            by_cases hsa : s.2 = a
            · have hsb : (s.2 == a) = true := by simp [hsa]
              have HSA := Lib.hid hsa; clear hsa
              go_wp2_with (go_at_fn g; refine HC.out.mono ?_; rintro e w2 ⟨rfl, hb2⟩; have da' := (hb2.cell (p := ⟨be, oe + j, none⟩) hbe2).trans da; have db' := (hb2.cell (p := ⟨be, oe + (j + 1), none⟩) hbe2).trans db; have ds' := (hb2.cell (p := ⟨gb, q * 2 + 1, none⟩) hg2).trans ds2; have hfz : w2.frozen? ⟨gb, q * 2 + 1, none⟩ = false := (HOS.out.below hb2).frozen _)
              go_quiet (fail)
              go_wp2
              go_roundw
              case rel =>
                refine ⟨j + 1, q + 1, co, some ⟨gb, 0, none⟩, .inr (by omega), by go_num, rfl, by omega, ?_, ?_⟩
                · rw [HST.out, addSpan_join (s := s) (by rw [HQ.out]; exact HLS.out) HSA.out, HQ.out]
                  exact ((HOS.out.below hb2).drewN nq).set_ S2_len (i := q) (j := 1) (x := s) HLS.out (by decide) rfl
                · exact (bdN (hb.trans (hb2.mono hb.size)) nq).setCell (p := ⟨gb, q * 2 + 1, none⟩) hg1 _
              case measure => simp [intOf]; omega
            · have hsb : (s.2 == a) = false := by simp [hsa]
              have HSA := Lib.hid hsa; clear hsa
              go_wp2_with (go_at_fn g; refine HC.out.mono ?_; rintro e w2 ⟨rfl, hb2⟩; have da' := (hb2.cell (p := ⟨be, oe + j, none⟩) hbe2).trans da; have db' := (hb2.cell (p := ⟨be, oe + (j + 1), none⟩) hbe2).trans db; have ds' := (hb2.cell (p := ⟨gb, q * 2 + 1, none⟩) hg2).trans ds2)
              go_quiet (fail)
              have hoS3 := (HOS.out.below hb2).drewN nq
              have hb3 := bdN (hb.trans (hb2.mono hb.size)) nq
              have da3 : (w2.drewN nq).cell? ⟨be, oe + j, none⟩ = some (.int .i64 a) := da'
              have db3 : (w2.drewN nq).cell? ⟨be, oe + (j + 1), none⟩ = some (.int .i64 b) := db'
              clear hb2 da' db' ds' da db ds2
              generalize w2.drewN nq = w3 at *
              have HO3 := Lib.hid hoS3; clear hoS3
              have i3 : 0 ≤ (j : Int) + 1 := by omega
              have i4 : IntKind.i64.wrap (j : Int) = (j : Int) := IntWalk.i64_in _ (by omega)
              have i5 : ((j : Int) + 1).toNat = j + 1 := by omega
              go_wp2
              go_region_law (
                (refine step_app _ rfl (.tmp 48) (.tmp 59) _ rfl elemSpans S2_len S2_one (base := w.heap.size) (.slice (some ⟨gb, 0, none⟩) (q + 1) co) o rfl (HO3.out.alloc _).drew _ _ 1 1 [(a, b)] rfl (Sl.lit w3 #[.int .i64 a, .int .i64 b] 109 [(a, b)] rfl S2_len).drew (by have := HQ.out; omega) (by have := hb3.size; simp; omega) ?_
                 intro A4 c4 w4 ho4 hg4 hat4))
              all_goals
                clear i4 i5
                have hb4 : Below w.heap.size w w4 := below_grown (hb3.alloc hb3.size _).drew hg4 (by have := hb3.size; simp; omega) (fun g' e => by simp [Value.ownBlock] at e; omega)
                have HO4 := Lib.hid ho4; clear ho4
                clear hg4 hat4
                go_wp2
                go_roundw
                case rel =>
                  refine ⟨j + 1, o.length + 1, c4, A4, .inr (by omega), by go_num, rfl, by have := HQ.out; omega, ?_, hb4⟩
                  rw [HST.out, addSpan_new (fun s' hs' => by rw [HQ.out] at hs'; rw [show q + 1 - 1 = q from rfl, HLS.out] at hs'; injection hs' with hs'; rw [← hs']; exact HSA.out)]
                  exact HO4.out
                case measure => simp [intOf]; omega
    · have HSP := Lib.hid (spansTo_all (f := f) (l := l) (i := j) (by omega))
      have HOS := Lib.hid hoS; clear hoS
      clear hnl HP
      have HR := Lib.hid hr; clear hr
      go_wp2
      go_ret
      refine RetOwn.mk rfl ?_ hb
      rw [← HSP.out]
      exact HOS.out
end Go.Proofs.YtiefdlfninhbgaaGreatDoor
