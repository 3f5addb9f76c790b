/- Merged texts: Rx, CSpinoffShares. -/
import Derived.Test.YtaiikjgoofefgaaGreatDoorCards
import Derived.Test.YtaiikjgoofefgaaGreatDoorTie
import Derived.Test.YtaiikjgoofefgaaGreatDoorQG1s5
import Derived.Lib.SmallJoins
import Derived.LaidSub
import Derived.ProofKit
import Derived.OpenShut
import Derived.Carry
import Derived.LaidMore
import Derived.Deep.Slices
import Derived.Deep.DeepHandedRow
import Derived.Lib.LaidTab
/- Tools for the rows of layer 28: what stays of the arguments' readings below a block number; a fraction that came in; the witness's world; the table of powers of ten. -/
namespace Go.Proofs.YtaiikjgoofefgaaGreatDoor
open Go.ChangeShapes Go.WideShapes Go.ChangeAt Go.RowKit Go.Deep

theorem laidOut : laidOutB Tryz.prog = true := by kernel_rfl
theorem own : ownKnob Tryz.prog.godebug = none := by kernel_rfl

section
variable {H : Type} {enc : TypeId × Value → H} {P : Program}
theorem trodAll_stays (hl : laidOutB P = true) : ∀ {ts : List TypeId} {vs : List Value} {ds : List (DataW H)} {ps : List MemPlace} {W W' : World} {sp : Nat → Bool}, (∀ t ∈ ts, P.readableRec t = true ∧ t < P.types.size) →
    DataW.TrodAll enc P W 0 (fun _ => true) true ts vs ds ps → (∀ p ∈ ps, W.sameAt W' p) → (∀ p ∈ ps, sp p.block = true) → DataW.TrodAll enc P W' 0 sp true ts vs ds ps := by
  intro ts
  induction ts with
  | nil =>
    intro vs ds ps W W' sp _ h _ _
    obtain ⟨rfl, rfl, rfl⟩ := trodAll_nil h
    exact trodAll_mk0
  | cons t ts ih =>
    intro vs ds ps W W' sp hr h hs hp
    obtain ⟨v, vs', d, ds', p, q, rfl, rfl, rfl, h1, h2⟩ := trodAll_cons h
    refine trodAll_cons_mk (WideElems.Trod_stays hl (hr t (by simp)).1 (hr t (by simp)).2 h1 (fun x hx => hs x (by simp [hx])) (fun x hx => hp x (by simp [hx]))) (ih (fun t' ht' => hr t' (by simp [ht'])) h2 (fun x hx => hs x (by simp [hx])) (fun x hx => hp x (by simp [hx])))

/-- A law's post: it returned true, and below its own blocks nothing has turned. -/
theorem post_below {f : Func} {s : ChangeSpec} {apart fresh handsOn again : Bool} {W W' : World} {args : Array Value} {ds gs : List (DataW H)} {before : List MemPlace} {tb : TypeId}
    (hl : laidOutB P = true) (hr : ∀ t ∈ f.params.toList, P.readableRec t = true ∧ t < P.types.size) (hrt : f.resultTypes = #[tb]) (hbt : P.underlying tb = some .bool) (hv : s.vars = [])
    (hfn : s.fn H (ds ++ gs) = { results := [.lit (.bool true)], args := ds })
    (hW : DataW.Whole enc P f.params.toList s.vars apart W args.toList ds gs before) (hb : Below W.heap.size W W') : s.post enc P f apart fresh handsOn again W args (.bool true) W' := by
  have hlt : ∀ p ∈ before, p.block < W.heap.size := hW.lt
  have hold : ∀ p ∈ before, (fun b => decide (b < W.heap.size)) p.block = true := fun p hp => by simpa using hlt p hp
  have hW' := hW
  obtain ⟨p, q, hA, hV, hpq, hz, hn⟩ := hW
  rw [hv] at hV
  obtain ⟨rfl, rfl⟩ := trodVars_none hV
  simp only [List.append_nil] at hpq
  subst hpq
  have hargs : ∀ sp : Nat → Bool, (∀ x ∈ before, sp x.block = true) → DataW.TrodAll enc P W' 0 sp true f.params.toList args.toList ds before :=
    fun sp hs => trodAll_stays hl hr hA (fun x hx => hb.same (hlt x hx)) hs
  have hres : ∀ (b : Nat) (sp : Nat → Bool) (hd : Bool), DataW.TrodAll enc P W' b sp hd f.resultTypes.toList ((Value.bool true).resultList f.resultTypes.size) (s.fn H (ds ++ [])).results [] := by
    intro b sp hd
    rw [hfn, hrt]
    exact trodAll_mk1 (shut_bool hbt _)
  have hvars : ∀ sp : Nat → Bool, DataW.TrodVars enc P W' sp s.vars (s.fn H (ds ++ [])).vars [] := by
    intro sp
    rw [hfn, hv]
    rfl
  refine ⟨ds, [], before, [], before, [], hW', hres _ _ _, by rw [hfn]; exact hargs _ hold, hvars _, World.keptBut_mono (fun x hx => ⟨hx, Or.inr (by simpa using hx)⟩) (hb.frame (· ∈ before)), fun _ => ?_⟩
  have hres2 := hres 0 (fun _ => true) true
  have hvars2 := hvars (fun _ => true)
  rw [hfn] at hres2 hvars2
  refine ⟨ok_one hrt rfl (okWide_bool_mk hbt _), _, _, ([] ++ before) ++ [], ⟨[] ++ before, [], trodAll_append (hargs _ (fun _ _ => rfl)) hres2, hvars2, rfl, ?_, ?_⟩, ?_⟩
  · intro b off hp
    have hp' : MemPlace.cell b off ∈ before := by simpa using hp
    rw [hb.frozen (p := ⟨b, off, none⟩) (hlt _ hp')]
    exact hz b off (by simpa using hp)
  · intro ha
    have := hn ha
    simpa using this
  · intro x hx _
    simpa using hx
end

theorem cellsFrac : Tryz.prog.cellsOf 24 = 2 := by kernel_rfl
set_option maxRecDepth 10000 in
theorem open_frac {H : Type} {enc : TypeId × Value → H} {W : World} {base : Nat} {v : Value} {d : DataW H} {p : List MemPlace} (hv : Value.okWide Tryz.prog W .any base 24 v) (h : DataW.Trod enc Tryz.prog W 0 (fun _ => true) true 24 v d p) :
    ∃ f : Fr, v = FrV f ∧ f.n.length ≤ maxLen ∧ f.d.length ≤ maxLen := by
  obtain ⟨v0, v1, y0, y1, n, rfl, _, _, h0, h1⟩ := Joins.open_agg2 Tryz.underlying24 (by kernel_rfl) cellsFrac hv h
  obtain ⟨s0, e0, _, l0⟩ := DataW.trod_string (t := 22) Tryz.underlying22 h0
  obtain ⟨s1, e1, _, l1⟩ := DataW.trod_string (t := 22) Tryz.underlying22 h1
  simp only [List.cons.injEq, and_true] at e0 e1
  subst e0; subst e1
  exact ⟨⟨s0.data.toList, s1.data.toList⟩, by simp [FrV, S], by show s0.data.toList.length ≤ maxLen; rw [Array.length_toList]; exact l0, by show s1.data.toList.length ≤ maxLen; rw [Array.length_toList]; exact l1⟩
noncomputable def laidWorld (os : Os) : World :=
  { World.doorLaid Tryz.prog 400 os with heap := (World.doorLaid Tryz.prog 400 os).heap.modify 4 fun
      | .cells _ t frozen => .cells (Pinned.utf8FirstZ.map fun (n : Nat) => Value.int .u8 (n : Int)).toArray t frozen
      | o => o }
set_option maxRecDepth 100000 in
theorem laid_met (os : Os) (args : Array Value) : laidMet Tryz.prog Rows.spinoffValuesRow.laid ((laidWorld os).forCall (fun _ _ => 0) ⟨#[], args, []⟩).memory :=
  laidMet_of_run' 8 (by kernel_rfl) (by kernel_rfl)
theorem pow_of_laid {W : World} (h : laidMetH Tryz.prog Rows.spinoffValuesRow.laid W) : Pow W := by
  have h0 : laidMet Tryz.prog Rows.spinoffValuesRow.laid W := h
  have h1 := h0.filter (fun x => x.1 == "internal/strconv.uint64pow10")
  have e : Rows.spinoffValuesRow.laid.filter (fun x => x.1 == "internal/strconv.uint64pow10") = [("internal/strconv.uint64pow10", Lib.tabData .u64 Lib.pow10Tab)] := by kernel_rfl
  rw [e] at h1
  exact Lib.tabIs_of_head (g := 2) (t := 155) (e := 78) (n := 20) (by kernel_rfl) (by kernel_rfl) Tryz.underlying155 Tryz.underlying78 (by kernel_rfl) (by kernel_rfl) h1
end Go.Proofs.YtaiikjgoofefgaaGreatDoor
/- The row and the tied card of SpinoffShares, out of its walk. -/
namespace Go.Proofs.YtaiikjgoofefgaaGreatDoor.lawSpinoffShares
open Go.ChangeShapes Go.WideShapes Go.ChangeAt Go.RowKit Go.Deep

def Walk : Prop := ∀ (f0 f1 f2 : Fr) (W : World), Pow W → (∀ x ∈ [f0, f1, f2], x.n.length ≤ maxLen ∧ x.d.length ≤ maxLen) → Calls Tryz.prog 3 #[FrV f0, FrV f1, FrV f2] W fun e w' => e = .returned (.bool true) ∧ Below W.heap.size W w'
set_option maxRecDepth 100000 in
theorem contract (hlaw : Walk) (H : Type) (enc : TypeId × Value → H) (W : World) (hpow : Pow W) (base : Nat) (args : Array Value) (ds gs : List (DataW H)) (before : List MemPlace)
    (hval : ∀ (j : Nat) t v, Tryz.f3.params[j]? = some t → args[j]? = some v → Value.okWide Tryz.prog W .any base t v)
    (hW : DataW.Whole enc Tryz.prog Tryz.f3.params.toList Rows.spinoffSharesSpec.vars false W args.toList ds gs before) :
    Calls Tryz.prog 3 args W fun e W' => ∃ v, e = .returned v ∧ Rows.spinoffSharesSpec.post enc Tryz.prog Tryz.f3 false true false false W args v W' := by
  have hW' := hW
  obtain ⟨p, q, hA0, hV, rfl, hfz, hnd⟩ := hW
  have hA : DataW.TrodAll enc Tryz.prog W 0 (fun _ => true) true Tryz.f3.params.toList args.toList ds p := hA0
  rw [Tryz.params3] at hA hval
  obtain ⟨v0, vs0, d0, ds0, p0, q0, hargs0, rfl, rfl, h0, r0⟩ := trodAll_cons hA
  obtain ⟨v1, vs1, d1, ds1, p1, q1, hargs1, rfl, rfl, h1, r1⟩ := trodAll_cons r0
  obtain ⟨v2, vs2, d2, ds2, p2, q2, hargs2, rfl, rfl, h2, r2⟩ := trodAll_cons r1
  obtain ⟨rfl, rfl, rfl⟩ := trodAll_nil r2
  obtain rfl : args = #[v0, v1, v2] := by cases args; simp_all
  obtain ⟨rfl, rfl⟩ := trodVars_none hV
  obtain ⟨f0, rfl, hn0, hd0⟩ := open_frac (hval 0 24 v0 (by kernel_rfl) (by kernel_rfl)) h0
  obtain ⟨f1, rfl, hn1, hd1⟩ := open_frac (hval 1 24 v1 (by kernel_rfl) (by kernel_rfl)) h1
  obtain ⟨f2, rfl, hn2, hd2⟩ := open_frac (hval 2 24 v2 (by kernel_rfl) (by kernel_rfl)) h2
  refine (hlaw f0 f1 f2 W hpow (by
    intro x hx
    simp only [List.mem_cons, List.mem_nil_iff, or_false] at hx
    rcases hx with rfl | rfl | rfl
    · exact ⟨hn0, hd0⟩
    · exact ⟨hn1, hd1⟩
    · exact ⟨hn2, hd2⟩)).mono fun e W' ⟨he, hb⟩ => ?_
  subst he
  refine ⟨_, rfl, post_below laidOut (fun t ht => ?_) (tb := 4) (by kernel_rfl) Tryz.underlying4 rfl rfl hW' hb⟩
  rw [Tryz.params3] at ht
  have hall : ([24, 24, 24].all fun t => Tryz.prog.readableRec t && decide (t < Tryz.prog.types.size)) = true := by kernel_rfl
  have := List.all_eq_true.1 hall t (by simpa using ht)
  simpa using this
theorem reads (os : Os) {H : Type} (enc : TypeId × Value → H) : ∃ places, DataW.whole enc Tryz.prog ((laidWorld os).forCall (fun _ _ => 0) ⟨#[], #[.agg #[.string ⟨#[]⟩, .string ⟨#[]⟩], .agg #[.string ⟨#[]⟩, .string ⟨#[]⟩], .agg #[.string ⟨#[]⟩, .string ⟨#[]⟩]], []⟩).memory Tryz.f3.params.toList Rows.spinoffSharesSpec.vars false (#[Value.agg #[.string ⟨#[]⟩, .string ⟨#[]⟩], Value.agg #[.string ⟨#[]⟩, .string ⟨#[]⟩], Value.agg #[.string ⟨#[]⟩, .string ⟨#[]⟩]] : Array Value).toList 8 = some ([.agg [.lit (.string []), .lit (.string [])], .agg [.lit (.string []), .lit (.string [])], .agg [.lit (.string []), .lit (.string [])]], [], places) :=
  ⟨[], by kernel_rfl⟩
set_option maxRecDepth 100000 in
theorem lifted (hlaw : Walk) (os : Os) (started : os.Started) (H : Type) (enc : TypeId × Value → H) (F : Stop.Interp) :
    ReturnsInHanded {} Tryz.checked os 3 .any ((OpenSpec.ofChange Rows.spinoffSharesSpec).preRow enc Tryz.prog Tryz.f3 Rows.spinoffSharesRow.domain false Rows.spinoffSharesRow.laid) (((OpenSpec.ofChange Rows.spinoffSharesSpec).at F).post enc Tryz.prog Tryz.f3 false true false false) := by
  obtain ⟨places, hx⟩ := reads os enc
  refine returnsInHanded_of_row (C := Tryz.checked) (s := OpenSpec.ofChange Rows.spinoffSharesSpec) own started (by kernel_rfl) Tryz.func3
    (witness_row_at (enc := enc) (C := Tryz.checked) false (laidWorld os) #[.agg #[.string ⟨#[]⟩, .string ⟨#[]⟩], .agg #[.string ⟨#[]⟩, .string ⟨#[]⟩], .agg #[.string ⟨#[]⟩, .string ⟨#[]⟩]] rfl (by kernel_rfl) (by kernel_rfl) (by kernel_rfl)
      (OpenSpec.preRow_of_cond 8 hx (by kernel_rfl) (fun k hk => by cases hk) (by kernel_rfl) (laid_met os _))) ?_
  intro W base args ds gs before hval hW _ _ _ hL _ _
  exact contract hlaw H enc W (pow_of_laid hL) base args ds gs before hval hW
theorem said (hlaw : Walk) : Rows.SpinoffSharesSaid :=
  OpenClaim.holds_of_cond 3 Tryz.f3 rfl rfl rfl rfl rfl rfl rfl ⟨rfl, rfl, rfl, rfl, rfl⟩ rfl rfl rfl rfl rfl (by kernel_rfl) Tryz.func3 (by kernel_rfl)
    (of_decide_eq_true (by kernel_rfl)) (by unfold Func.isWrapper; first | (rw [if_pos (by decide +kernel)]; kernel_rfl) | (rw [if_neg (by decide +kernel)]; exact ⟨rfl, rfl⟩))
    (fun os started H enc _ F => by rw [OpenClaim.pre_eq_preRow]; exact lifted hlaw os started H enc F)
theorem plain (f : FuncId) (fn : Func) (hf : Tryz.pinned.checked.prog.funcNamed "tranche/tranchelaw28.SpinoffShares" = some f) (hfn : Tryz.pinned.checked.prog.funcs[f]? = some fn) :
    true = Tryz.pinned.checked.prog.looks [] ∧ ∀ (j : Nat) t, fn.params[j]? = some t → Tryz.pinned.checked.prog.wantsStandIn t = false := by
  obtain rfl : f = 3 := Option.some.inj ((show Tryz.prog.funcNamed "tranche/tranchelaw28.SpinoffShares" = some 3 by kernel_rfl).symm.trans hf) |>.symm
  obtain rfl : fn = Tryz.f3 := (Option.some.inj (Tryz.func3.symm.trans hfn)).symm
  refine ⟨by kernel_rfl, fun j t ht => ?_⟩
  rw [Tryz.params3] at ht
  have hm : t ∈ [24, 24, 24] := by simpa using Array.mem_of_getElem? ht
  have hall : ([24, 24, 24].all fun u => !Tryz.prog.wantsStandIn u) = true := by kernel_rfl
  exact (show Tryz.prog.wantsStandIn t = false by simpa using List.all_eq_true.1 hall t hm)
theorem card (hlaw : Walk) : Rows.SpinoffSharesCardSaid :=
  Claim7.holds_tied_plain_at .later [] _ _ _ _ (said hlaw) (fun _ h => by cases h) (by kernel_rfl) (fun _ h => by cases h) spinoffShares_row_tie rfl ⟨rfl, rfl⟩ (by kernel_rfl) rfl plain (by kernel_rfl)
end Go.Proofs.YtaiikjgoofefgaaGreatDoor.lawSpinoffShares
