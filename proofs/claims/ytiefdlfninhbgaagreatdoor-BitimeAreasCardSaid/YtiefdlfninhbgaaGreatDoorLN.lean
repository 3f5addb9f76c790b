/- Contract of the statements' normal: the normal forms of some lists. -/
import Derived.Test.YtiefdlfninhbgaaGreatDoorG1
import Derived.Test.YtiefdlfninhbgaaGreatDoorP3
namespace Go.Proofs.YtiefdlfninhbgaaGreatDoor
open Go.RowKit Go.Shelf

theorem elemRegss : ElemT Tryz.prog 38 22 1 24 := elemT_of Tryz.underlying38 (by kernel_rfl) (by decide) (by decide)
/-- A list that the statements examine. -/
def okN (xs : List Reg) : Bool := decide (xs.length ≤ 10) && decide ((pNormL xs).2 = 0)
/-- Slices of the call's own, one for each list. -/
def OwnAll (w : World) (base : Nat) (rs : List SlV) (oss : List (List Reg)) : Prop := rs.length = oss.length ∧ ∀ (i : Nat) r o, rs[i]? = some r → oss[i]? = some o → Own Reg.vals 4 35 w base (.slice r.A r.n r.c) o
section
variable {w w' : World} {base : Nat} {rs : List SlV} {oss : List (List Reg)}
theorem OwnAll.nil : OwnAll w base [] [] := ⟨rfl, fun i r o hr => by simp at hr⟩
theorem OwnAll.map_ (h : OwnAll w base rs oss) (hm : ∀ v o, Own Reg.vals 4 35 w base v o → Own Reg.vals 4 35 w' base v o) : OwnAll w' base rs oss := ⟨h.1, fun i r o hr ho => hm _ _ (h.2 i r o hr ho)⟩
theorem OwnAll.below (h : OwnAll w base rs oss) (hb : Below w.heap.size w w') : OwnAll w' base rs oss := h.map_ fun _ _ ho => ho.below hb
theorem OwnAll.snoc (h : OwnAll w base rs oss) {r : SlV} {o : List Reg} (hr : Own Reg.vals 4 35 w base (.slice r.A r.n r.c) o) : OwnAll w base (rs ++ [r]) (oss ++ [o]) := by
  refine ⟨by simp [h.1], fun i r' b' hr' hb' => ?_⟩
  by_cases hi : i < rs.length
  · rw [List.getElem?_append_left hi] at hr'
    rw [List.getElem?_append_left (by rw [← h.1]; exact hi)] at hb'
    exact h.2 i r' b' hr' hb'
  · rw [List.getElem?_append_right (by omega)] at hr'
    rw [List.getElem?_append_right (by rw [← h.1]; omega), ← h.1] at hb'
    have hl := (List.getElem?_eq_some_iff.1 hr').1
    simp at hl
    rw [hl] at hr' hb'
    simp at hr' hb'
    subst hr'; subst hb'; exact hr
end
def normsL (xss : List (List Reg)) : List (List Reg) := xss.map fun xs => (pNormL xs).1
theorem normsL_step {xss : List (List Reg)} {j : Nat} {xs : List Reg} (h : xss[j]? = some xs) : normsL (xss.take (j + 1)) = normsL (xss.take j) ++ [(pNormL xs).1] := by
  obtain ⟨hj, rfl⟩ := List.getElem?_eq_some_iff.1 h
  unfold normsL; rw [List.take_succ_eq_append_getElem hj, List.map_append]; rfl
theorem okN_all_false {xss : List (List Reg)} {j : Nat} {xs : List Reg} (h : xss[j]? = some xs) (hx : okN xs = false) : xss.all okN = false := by
  rw [List.all_eq_false]
  exact ⟨xs, List.mem_of_getElem? h, by simp [hx]⟩
theorem okN_step {xss : List (List Reg)} {j : Nat} {xs : List Reg} (h : xss[j]? = some xs) (hx : okN xs = true) (ht : (xss.take j).all okN = true) : (xss.take (j + 1)).all okN = true := by
  obtain ⟨hj, rfl⟩ := List.getElem?_eq_some_iff.1 h
  rw [List.take_succ_eq_append_getElem hj, List.all_append, ht]; simpa using hx
/-- What normal gives. -/
def LNPost (n : Nat) (xss : List (List Reg)) (w : World) (e : Ending) (w' : World) : Prop :=
  Below w.heap.size w w' ∧ ((xss.all okN = false ∧ e = .returned (.tuple #[.slice none 0 0, .bool false])) ∨
    (xss.all okN = true ∧ ∃ A' c' rs, e = .returned (.tuple #[.slice A' n c', .bool true]) ∧ Own SlV.vals 1 22 w' w.heap.size (.slice A' n c') rs ∧ OwnAll w' w.heap.size rs (normsL xss)))

set_option maxHeartbeats 2000000 in
theorem lnormal_any (A : Option Addr) (n c : Nat) (rs : List SlV) (xss : List (List Reg)) (w : World) (hr : Sl SlV.vals 1 w w.heap.size A n rs) (hx : RgsAll w w.heap.size rs xss) (hn : n ≤ 1000) (hl : ∀ r ∈ rs, r.n ≤ maxLen) :
    Calls Tryz.prog 26 #[.slice A n c] w (LNPost n xss w) := by
  have HNL := Lib.hid hr.1
  have HX := Lib.hid hx; have HL := Lib.hid hl; clear hx hl
  go_enter Tryz.func26, Tryz.ntmps26
  go_wp2
  go_loopw [4, 6, 7, 8, 11] (fun v _ _ _ i wr => ∃ (j m co : Nat) (Ao : Option Addr) (os : List SlV), j ≤ n ∧ i = .int .i64 j ∧ v = .slice Ao m co ∧ m = j ∧ Own SlV.vals 1 22 wr w.heap.size (.slice Ao m co) os ∧
      Hid (OwnAll wr w.heap.size os (normsL (xss.take j))) ∧ Hid ((xss.take j).all okN = true) ∧ Below w.heap.size w wr) (fun _ _ _ _ i _ => n - (intOf i).toNat)
  case atStart => exact ⟨0, 0, 0, none, [], Nat.zero_le _, rfl, rfl, rfl, Own.nil, OwnAll.nil, by show _ = _; rfl, Below.refl _ _⟩
  case round =>
    obtain ⟨j, m, co, Ao, os, hj, rfl, rfl, rfl, hoS, HOA, HOK, hb⟩ := hrel
    obtain ⟨hml, _, _, hAo⟩ := hoS.facts
    have HAo := Lib.hid hAo; clear hAo
    have HML := Lib.hid hml; clear hml
    by_cases hlt : m < n
    · obtain ⟨b, off, r, rfl, hbl, hxj, d0⟩ := (hr.below hb).slv hlt
      obtain ⟨xs, hxs, hrg⟩ := HX.out.at_ hxj
      have hrm := HL.out r (List.mem_of_getElem? hxj)
      have HST := Lib.hid (normsL_step hxs)
      have HOF := Lib.hid (fun h => okN_all_false hxs h)
      have HOT := Lib.hid (fun h => okN_step hxs h HOK.out)
      have HG := Lib.hid (fun W => great_big r.A r.n r.c W hrm)
      have hxl := hrg.1
      have HRG := Lib.hid hrg; clear hrg hxj hxs
      have HR := Lib.hid hr; clear hr
      have HOS := Lib.hid hoS; clear hoS
      clear hrm
      by_cases h10 : r.n ≤ 10
      · have hgr : great r.n = false := by unfold great; simp; omega
        rw [hgr] at HG
        have HN := Lib.hid (fun W (hW : Below w.heap.size w W) => Normal_any r.A r.n r.c xs W ((HRG.out.below hW).more hW.size) (by omega))
        have hokd : okN xs = decide ((pNormL xs).2 = 0) := by unfold okN; rw [← hxl]; simp [h10]
        have hpl : (pNormL xs).1.length ≤ 400 := by
          unfold pNormL
          split
          · simp
          · split
            · simp
            · exact limL_len _
        clear hxl hgr
        generalize pNormL xs = pn at *
        obtain ⟨ol, oe⟩ := pn
        simp only at hokd HST hpl
        by_cases hoe : oe = 0
        · subst hoe
          have hok : okN xs = true := by rw [hokd]; rfl
          have HOK2 := Lib.hid (HOT.out hok)
          clear hok hokd HOF HOT
          go_wp2_with (first
            | (go_at_call 9; refine (HG.out _).mono ?_; rintro e w1 ⟨rfl, rfl⟩)
            | (go_at_call 11; refine (HN.out _ hb).mono ?_; rintro e w2 ⟨A2, c2, rfl, ho2, hb2⟩)
            | (at_builtin; refine wpList_app _ rfl (.tmp 29) (.tmp 31) _ rfl elemRegss SlV.vals_len SlV.vals_one (base := w.heap.size) (.slice Ao m co) os rfl ((HOS.out.below hb2).alloc _) _ _ 1 1 [⟨A2, ol.length, c2⟩] rfl (Sl.lit w2 #[.slice A2 ol.length c2] 22 [⟨A2, ol.length, c2⟩] rfl SlV.vals_len) (by rw [← HML.out]; omega) (by have := hb.size; have := hb2.size; simp; omega) ?_; intro A4 c4 w4 ho4 hg4 hat4))
          go_roundw
          case rel =>
            refine ⟨m + 1, m + 1, c4, A4, os ++ [⟨A2, ol.length, c2⟩], by omega, by go_num, by rw [HML.out], rfl, by rw [HML.out]; exact ho4, ?_, HOK2, ?_⟩
            · show OwnAll _ _ _ _
              rw [HST.out]
              refine OwnAll.snoc (HOA.out.map_ fun v o hv => ((hv.below hb2).alloc _).grown hg4 (hv.ne HOS.out (by decide))) ?_
              exact ((ho2.base_ hb.size).alloc _).grown hg4 (ho2.ne (HOS.out.below hb2) (by decide))
            · refine below_grown ((hb.trans (hb2.mono hb.size)).alloc (Nat.le_trans hb.size hb2.size) _) hg4 (by have := hb.size; have := hb2.size; simp; omega) (fun g' e => ?_)
              rcases HAo.out with ⟨rfl, _⟩ | ⟨g, rfl, hg1, hg2⟩
              · simp [Value.ownBlock] at e
              · simp [Value.ownBlock] at e; omega
          case measure => simp [intOf]; omega
        · have hok : okN xs = false := by rw [hokd]; simpa using hoe
          have HOK2 := Lib.hid (HOF.out hok)
          have hcb : (oe == 0) = false := by simp [hoe]
          have hcn : (oe != 0) = true := by simp [hoe]
          clear hok hokd HOF HOT hoe
          go_wp2_with (first
            | (go_at_call 9; refine (HG.out _).mono ?_; rintro e w1 ⟨rfl, rfl⟩)
            | (go_at_call 11; refine (HN.out _ hb).mono ?_; rintro e w2 ⟨A2, c2, rfl, ho2, hb2⟩))
          go_ret2
          exact ⟨hb.trans (hb2.mono hb.size), .inl ⟨HOK2.out, rfl⟩⟩
      · have hok : okN xs = false := by unfold okN; rw [← hxl]; simp [h10]
        have HOK2 := Lib.hid (HOF.out hok)
        clear hok hxl
        cases hgr : great r.n with
        | true =>
          rw [hgr] at HG
          clear hgr
          go_wp2_with (go_at_call 9; refine (HG.out _).mono ?_; rintro e w1 ⟨rfl, rfl⟩)
          go_ret2
          exact ⟨hb, .inl ⟨HOK2.out, rfl⟩⟩
        | false =>
          rw [hgr] at HG
          clear hgr
          go_wp2_with (go_at_call 9; refine (HG.out _).mono ?_; rintro e w1 ⟨rfl, rfl⟩)
          go_ret2
          exact ⟨hb, .inl ⟨HOK2.out, rfl⟩⟩
    · obtain rfl : m = n := by omega
      have HE := Lib.hid (show xss.take m = xss from List.take_of_length_le (by rw [← HX.out.1, ← HNL.out]; omega))
      rw [HE.out] at HOA HOK
      have HOS := Lib.hid hoS; clear hoS
      go_wp2
      go_ret2
      exact ⟨hb, .inr ⟨HOK.out, Ao, co, os, rfl, HOS.out, HOA.out⟩⟩
end Go.Proofs.YtiefdlfninhbgaaGreatDoor
