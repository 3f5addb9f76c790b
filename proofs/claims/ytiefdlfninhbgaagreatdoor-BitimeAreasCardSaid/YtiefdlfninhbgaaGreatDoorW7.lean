/- Contracts of the reference's Form, Normal and Check. -/
import Derived.Test.YtiefdlfninhbgaaGreatDoorW6
namespace Go.Proofs.YtiefdlfninhbgaaGreatDoor
open Go.RowKit Go.Shelf

def bandsL (at_ : List Int) (sp : Int → List Span) : List Band := (pairs at_).map fun p => ⟨p.1, p.2, sp p.1⟩
def spL (xs : List Reg) (d : Int) : List Span := spansL (endsL xs d) fun k => hasL xs d k
def formL (xs : List Reg) : List Reg := joinL (bandsL (daysL xs) (spL xs))
theorem endsL_len (xs : List Reg) (d : Int) : (endsL xs d).length ≤ 2 * xs.length := by
  have : ∀ (l : List Reg) (o : List Int), (l.foldl (endsStep d) o).length ≤ o.length + 2 * l.length := by
    intro l
    induction l with
    | nil => intro o; simp
    | cons a l ih =>
      intro o
      rw [List.foldl_cons]
      have h1 := ih (endsStep d o a)
      have h2 : (endsStep d o a).length ≤ o.length + 2 := by
        unfold endsStep
        split
        · have h2 := insertL_len (insertL o a.si) a.un; have h3 := insertL_len o a.si; omega
        · omega
      rw [List.length_cons]; omega
  have := this xs []; simpa [endsL] using this
theorem spL_len (xs : List Reg) (d : Int) : (spL xs d).length ≤ 2 * xs.length := Nat.le_trans (spansL_len _ _) (endsL_len xs d)
theorem bandsL_step {l : List Int} {sp : Int → List Span} {i : Nat} {a b : Int} (h1 : l[i]? = some a) (h2 : l[i + 1]? = some b) : (bandsL l sp).take (i + 1) = (bandsL l sp).take i ++ [⟨a, b, sp a⟩] := by
  have h : (bandsL l sp)[i]? = some ⟨a, b, sp a⟩ := by unfold bandsL; rw [List.getElem?_map, pairs_at h1 h2]; rfl
  obtain ⟨hj, he⟩ := List.getElem?_eq_some_iff.1 h
  rw [List.take_succ_eq_append_getElem hj, he]
theorem bandsL_all {l : List Int} {sp : Int → List Span} {i : Nat} (h : l.length ≤ i + 1) : (bandsL l sp).take i = bandsL l sp := by
  rw [List.take_of_length_le (by unfold bandsL; rw [List.length_map, pairs_len]; omega)]

/-- Bands whose spans are the call's own. -/
def BandsOwn (w : World) (base : Nat) (rs : List RB) (bs : List Band) : Prop :=
  rs.length = bs.length ∧ ∀ (i : Nat) r b, rs[i]? = some r → bs[i]? = some b → r.fr = b.fr ∧ r.to = b.to ∧ Own S2 2 79 w base (.slice r.A r.n r.c) b.sp
section
variable {w w' : World} {base base' : Nat} {rs : List RB} {bs : List Band}
theorem BandsOwn.nil : BandsOwn w base [] [] := ⟨rfl, fun i r b hr => by simp at hr⟩
theorem BandsOwn.map_ (h : BandsOwn w base rs bs) (hm : ∀ v xs, Own S2 2 79 w base v xs → Own S2 2 79 w' base v xs) : BandsOwn w' base rs bs :=
  ⟨h.1, fun i r b hr hb => ⟨(h.2 i r b hr hb).1, (h.2 i r b hr hb).2.1, hm _ _ (h.2 i r b hr hb).2.2⟩⟩
theorem BandsOwn.snoc (h : BandsOwn w base rs bs) {r : RB} {b : Band} (hr : r.fr = b.fr ∧ r.to = b.to ∧ Own S2 2 79 w base (.slice r.A r.n r.c) b.sp) : BandsOwn w base (rs ++ [r]) (bs ++ [b]) := by
  refine ⟨by simp [h.1], fun i r' b' hr' hb' => ?_⟩
  by_cases hi : i < rs.length
  · rw [List.getElem?_append_left hi] at hr'
    rw [List.getElem?_append_left (by rw [← h.1]; exact hi)] at hb'
    exact h.2 i r' b' hr' hb'
  · rw [List.getElem?_append_right (by omega)] at hr'
    rw [List.getElem?_append_right (by rw [← h.1]; omega), ← h.1] at hb'
    have hl := (List.getElem?_eq_some_iff.1 hr').1
    simp at hl
    rw [hl] at hr' hb'
    simp at hr' hb'
    subst hr'; subst hb'; exact hr
theorem BandsOwn.of (h : BandsOwn w base rs bs) : BandsOf w w.heap.size rs bs := ⟨h.1, fun i r b hr hb => ⟨(h.2 i r b hr hb).1, (h.2 i r b hr hb).2.1, (h.2 i r b hr hb).2.2.sl S2_len⟩⟩
end

set_option maxRecDepth 100000 in
set_option maxHeartbeats 2000000 in
theorem form_any (A : Option Addr) (n c : Nat) (xs : List Reg) (w : World) (hr : Rgs w w.heap.size A n xs) (hn : n ≤ 1000) :
    Calls Tryz.prog 41 #[.slice A n c] w (RetOwn Reg.vals 4 35 w.heap.size w (formL xs)) := by
  have HD := Lib.hid (days_any A n c xs w hr (by omega))
  have hdl := daysL_len xs
  have hdl2 : (daysL xs).length ≤ 2000 := by have := hr.1; omega
  have HSPL := Lib.hid (show ∀ d, (spL xs d).length ≤ 2000 from fun d => by have := spL_len xs d; have := hr.1; omega)
  have HFD := Lib.hid (show formL xs = joinL (bandsL (daysL xs) (spL xs)) from rfl)
  have HSA := Lib.hid (show ∀ (d : Int) (W : World) (_ : Rgs W W.heap.size A n xs), Calls Tryz.prog 60 #[.slice A n c, .int .i64 d] W (RetOwn S2 2 79 W.heap.size W (spL xs d)) from
    fun d W h => rspans_any A n c xs d W h (by omega) (fun k => hasL xs d k) (fun _ => rfl))
  generalize spL xs = sp at *
  generalize daysL xs = at_ at *
  clear hdl
  have HR := Lib.hid hr; clear hr
  go_enter Tryz.func41, Tryz.ntmps41
  go_wp2_with (go_at_call 59; refine HD.out.mono ?_; rintro e w1 ⟨A1, c1, rfl, ho1, hb1⟩)
  have HO1 := Lib.hid ho1; clear ho1
  go_loopw [4, 5] (fun v i wr => ∃ (j m co : Nat) (Ao : Option Addr) (rs : List RB), (j = 0 ∨ j + 1 ≤ at_.length) ∧ i = .int .i64 j ∧ v = .slice Ao m co ∧ m ≤ j ∧ Own RB.vals 3 75 wr w.heap.size (.slice Ao m co) rs ∧
      Hid (BandsOwn wr w.heap.size rs ((bandsL at_ sp).take j)) ∧ Own I1 1 3 wr w.heap.size (.slice A1 at_.length c1) at_ ∧ Below w.heap.size w wr) (fun _ i _ => at_.length - (intOf i).toNat)
  case atStart =>
    refine ⟨0, 0, 0, _, [], .inl rfl, rfl, rfl, Nat.le_refl _, Own.lit w1 #[] 75 [] rfl RB.vals_len hb1.size (by simp), BandsOwn.nil, HO1.out.alloc _, hb1.alloc hb1.size _⟩
  case round =>
    obtain ⟨j, m, co, Ao, rs, hj, rfl, rfl, hm, hoB, HBO, hoA, hb⟩ := hrel
    clear hb1 HO1
    by_cases hlt : j + 1 < at_.length
    · obtain ⟨be, oe, a, hA1, hbe, hla, da⟩ := (hoA.sl I1_len).int (i := j) (by omega)
      obtain ⟨be', oe', b, hA2, _, hlb, db⟩ := (hoA.sl I1_len).int (i := j + 1) hlt
      subst hA1
      injection hA2 with hA2
      injection hA2 with e1 e2
      subst e1; subst e2
      have HST := Lib.hid (bandsL_step (sp := sp) hla hlb)
      obtain ⟨rfl, _, _, hAo⟩ := hoB.facts
      have HAo := Lib.hid hAo; clear hAo
      have HOB := Lib.hid hoB; have HOA := Lib.hid hoA; clear hoB hoA
      have HLA := Lib.hid hla; have HLB := Lib.hid hlb; clear hla hlb
      have hbs := hb.size
      have HNE := Lib.hid (show some be ≠ (Value.slice Ao rs.length co).ownBlock by
        rcases HOA.out.ne HOB.out (by decide) with h | h
        · simp [Value.ownBlock] at h
        · exact h)
      have i1 : (j : Int) < (at_.length : Int) := by omega
      have i2 : (j : Int) + 1 < (at_.length : Int) := by omega
      have i3 : 0 ≤ (j : Int) + 1 := by omega
      have hz := HSPL.out a
      go_wp2
      have i4 : IntKind.i64.wrap ((j : Int) + 1) = (j : Int) + 1 := IntWalk.i64_in _ (by omega)
      have i5 : ((j : Int) + 1).toNat = j + 1 := by omega
      go_region_held3 (fun w' => w'.cell? ⟨be, oe + j, none⟩ = some (.int .i64 a) ∧ w'.cell? ⟨be, oe + (j + 1), none⟩ = some (.int .i64 b))
        (first
          | exact ⟨da, db⟩
          | exact ⟨(hb1.cell (p := ⟨be, oe + j, none⟩) hbe).trans da, (hb1.cell (p := ⟨be, oe + (j + 1), none⟩) hbe).trans db⟩
          | exact ⟨((hb1.alloc hb1.size _).cell (p := ⟨be, oe + j, none⟩) hbe).trans da, ((hb1.alloc hb1.size _).cell (p := ⟨be, oe + (j + 1), none⟩) hbe).trans db⟩
          | exact ⟨hg4.cell (((hb1.alloc hb1.size _).cell (p := ⟨be, oe + j, none⟩) hbe).trans da) HNE.out, hg4.cell (((hb1.alloc hb1.size _).cell (p := ⟨be, oe + (j + 1), none⟩) hbe).trans db) HNE.out⟩)
        (first
          | (refine step_app _ rfl (.tmp 16) (.tmp 33) _ rfl elemBands RB.vals_len RB.vals_one (base := w.heap.size) (.slice Ao rs.length co) rs rfl ((HOB.out.drew.below hb1).alloc _) _ _ 1 1 [⟨a, b, A1, (sp a).length, c1⟩] rfl (Sl.lit w1 #[.int .i64 a, .int .i64 b, .slice A1 (sp a).length c1] 75 [⟨a, b, A1, (sp a).length, c1⟩] rfl RB.vals_len) (by omega) (by have := hb1.size; simp at this; simp; omega) ?_
             intro A4 c4 w4 ho4 hg4 hat4)
          | (go_at_call 60; refine (HSA.out a _ ((HR.out.below hb).drew.more (by exact hb.size))).mono ?_; rintro e w1 ⟨A1, c1, rfl, ho1, hb1⟩))
      all_goals
        clear i4 i5
        have hb4 : Below w.heap.size w w4 := below_grown ((hb.drew.trans (hb1.mono hb.size)).alloc (Nat.le_trans hb.size hb1.size) _) hg4 (by have := hb1.size; simp at this; simp; omega) (fun g' e => by
          rcases HAo.out with ⟨rfl, _⟩ | ⟨g, rfl, hg1, hg2⟩
          · simp [Value.ownBlock] at e
          · simp [Value.ownBlock] at e; omega)
        have hA4 := ((HOA.out.drew.below hb1).alloc _).grown hg4 (HOA.out.ne HOB.out (by decide))
        have HBO4 : Hid (BandsOwn w4 w.heap.size (rs ++ [⟨a, b, A1, (sp a).length, c1⟩]) ((bandsL at_ sp).take (j + 1))) := by
          rw [HST.out]
          refine BandsOwn.snoc (HBO.out.map_ fun v ys hv => ((hv.drew.below hb1).alloc _).grown hg4 (hv.ne HOB.out (by decide))) ⟨rfl, rfl, ?_⟩
          exact ((ho1.base_ (by exact hb.size)).alloc _).grown hg4 (ho1.ne (HOB.out.drew.below hb1) (by decide))
        have HA4 := Lib.hid hA4; clear hA4
        have HO4 := Lib.hid ho4; clear ho4
        clear hg4 hat4 ho1 hb1
        go_wp2
        go_roundw
        case rel => exact ⟨j + 1, rs.length + 1, c4, A4, _, .inr (by omega), by go_num, rfl, by omega, HO4.out, HBO4, HA4.out, hb4⟩
        case measure => simp [intOf]; omega
    · have HB := Lib.hid (bandsL_all (l := at_) (sp := sp) (i := j) (by omega))
      have hbl : (bandsL at_ sp).length ≤ 10000 := by unfold bandsL; rw [List.length_map, pairs_len]; omega
      have HSB := Lib.hid (show ∀ b ∈ bandsL at_ sp, b.sp.length ≤ 10000 from fun b hb => by
        unfold bandsL at hb
        rw [List.mem_map] at hb
        obtain ⟨p, _, rfl⟩ := hb
        have := HSPL.out p.1
        simp only; omega)
      rw [HB.out] at HBO
      obtain ⟨rfl, _⟩ := hoB.facts
      have hrl : rs.length ≤ 10000 := by rw [HBO.out.1]; exact hbl
      have HOB := Lib.hid hoB; clear hoB hoA
      have HJ := Lib.hid (join_any Ao rs.length co rs (bandsL at_ sp) wr (HOB.out.sl RB.vals_len) HBO.out.of hrl HSB.out)
      go_wp2_with (go_at_call 61; refine HJ.out.mono ?_; rintro e w5 ⟨A5, c5, rfl, ho5, hb5⟩)
      go_ret
      refine RetOwn.mk rfl ?_ (hb.trans (hb5.mono hb.size))
      rw [HFD.out]
      exact ho5.base_ hb.size
end Go.Proofs.YtiefdlfninhbgaaGreatDoor
