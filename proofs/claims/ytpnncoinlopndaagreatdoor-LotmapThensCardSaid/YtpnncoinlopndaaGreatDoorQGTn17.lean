/- Merged texts: Rl, CLotmapThens, Mv2, Pr1. -/
import Derived.Test.YtpnncoinlopndaaGreatDoorCards
import Derived.Test.YtpnncoinlopndaaGreatDoorTie
import Derived.Test.YtpnncoinlopndaaGreatDoorQGTn16
import Derived.Lib.SmallJoins
import Derived.LaidSub
import Derived.ProofKit
import Derived.OpenShut
import Derived.Carry
import Derived.LaidMore
import Derived.Deep.Slices
import Derived.Deep.DeepHandedRow
import Derived.Lib.LaidTab
import Derived.Test.YtpnncoinlopndaaGreatDoorQGTn12
import Derived.Test.YtpnncoinlopndaaGreatDoorQGTn8
import Derived.Laws.Tables
import Derived.Test.YtpnncoinlopndaaGreatDoorQGTn13
namespace Go.Proofs.YtpnncoinlopndaaGreatDoor
open Go.ChangeShapes Go.WideShapes Go.ChangeAt Go.RowKit Go.Deep
theorem laidOut : laidOutB Tryz.prog = true := by kernel_rfl
theorem own : ownKnob Tryz.prog.godebug = none := by kernel_rfl
section
variable {H : Type} {enc : TypeId × Value → H} {P : Program}
theorem trodAll_stays (hl : laidOutB P = true) : ∀ {ts : List TypeId} {vs : List Value} {ds : List (DataW H)} {ps : List MemPlace} {W W' : World} {sp : Nat → Bool}, (∀ t ∈ ts, P.readableRec t = true ∧ t < P.types.size) →
    DataW.TrodAll enc P W 0 (fun _ => true) true ts vs ds ps → (∀ p ∈ ps, W.sameAt W' p) → (∀ p ∈ ps, sp p.block = true) → DataW.TrodAll enc P W' 0 sp true ts vs ds ps := by
  intro ts
  induction ts with
  | nil =>
    intro vs ds ps W W' sp _ h _ _
    obtain ⟨rfl, rfl, rfl⟩ := trodAll_nil h
    exact trodAll_mk0
  | cons t ts ih =>
    intro vs ds ps W W' sp hr h hs hp
    obtain ⟨v, vs', d, ds', p, q, rfl, rfl, rfl, h1, h2⟩ := trodAll_cons h
    refine trodAll_cons_mk (WideElems.Trod_stays hl (hr t (by simp)).1 (hr t (by simp)).2 h1 (fun x hx => hs x (by simp [hx])) (fun x hx => hp x (by simp [hx]))) (ih (fun t' ht' => hr t' (by simp [ht'])) h2 (fun x hx => hs x (by simp [hx])) (fun x hx => hp x (by simp [hx])))
theorem post_below {f : Func} {s : ChangeSpec} {apart fresh handsOn again : Bool} {W W' : World} {args : Array Value} {ds gs : List (DataW H)} {before : List MemPlace} {tb : TypeId}
    (hl : laidOutB P = true) (hr : ∀ t ∈ f.params.toList, P.readableRec t = true ∧ t < P.types.size) (hrt : f.resultTypes = #[tb]) (hbt : P.underlying tb = some .bool) (hv : s.vars = [])
    (hfn : s.fn H (ds ++ gs) = { results := [.lit (.bool true)], args := ds })
    (hW : DataW.Whole enc P f.params.toList s.vars apart W args.toList ds gs before) (hb : Below W.heap.size W W') : s.post enc P f apart fresh handsOn again W args (.bool true) W' := by
  have hlt : ∀ p ∈ before, p.block < W.heap.size := hW.lt
  have hold : ∀ p ∈ before, (fun b => decide (b < W.heap.size)) p.block = true := fun p hp => by simpa using hlt p hp
  have hW' := hW
  obtain ⟨p, q, hA, hV, hpq, hz, hn⟩ := hW
  rw [hv] at hV
  obtain ⟨rfl, rfl⟩ := trodVars_none hV
  simp only [List.append_nil] at hpq
  subst hpq
  have hargs : ∀ sp : Nat → Bool, (∀ x ∈ before, sp x.block = true) → DataW.TrodAll enc P W' 0 sp true f.params.toList args.toList ds before :=
    fun sp hs => trodAll_stays hl hr hA (fun x hx => hb.same (hlt x hx)) hs
  have hres : ∀ (b : Nat) (sp : Nat → Bool) (hd : Bool), DataW.TrodAll enc P W' b sp hd f.resultTypes.toList ((Value.bool true).resultList f.resultTypes.size) (s.fn H (ds ++ [])).results [] := by
    intro b sp hd
    rw [hfn, hrt]
    exact trodAll_mk1 (shut_bool hbt _)
  have hvars : ∀ sp : Nat → Bool, DataW.TrodVars enc P W' sp s.vars (s.fn H (ds ++ [])).vars [] := by
    intro sp
    rw [hfn, hv]
    rfl
  refine ⟨ds, [], before, [], before, [], hW', hres _ _ _, by rw [hfn]; exact hargs _ hold, hvars _, World.keptBut_mono (fun x hx => ⟨hx, Or.inr (by simpa using hx)⟩) (hb.frame (· ∈ before)), fun _ => ?_⟩
  have hres2 := hres 0 (fun _ => true) true
  have hvars2 := hvars (fun _ => true)
  rw [hfn] at hres2 hvars2
  refine ⟨ok_one hrt rfl (okWide_bool_mk hbt _), _, _, ([] ++ before) ++ [], ⟨[] ++ before, [], trodAll_append (hargs _ (fun _ _ => rfl)) hres2, hvars2, rfl, ?_, ?_⟩, ?_⟩
  · intro b off hp
    have hp' : MemPlace.cell b off ∈ before := by simpa using hp
    rw [hb.frozen (p := ⟨b, off, none⟩) (hlt _ hp')]
    exact hz b off (by simpa using hp)
  · intro ha
    have := hn ha
    simpa using this
  · intro x hx _
    simpa using hx
end
theorem cellsFrac : Tryz.prog.cellsOf 26 = 2 := by kernel_rfl
theorem wf64 {k : Int} (h : (Lit.int .i64 k).wf = true) : -9223372036854775808 ≤ k ∧ k ≤ 9223372036854775807 := by
  simp [Lit.wf] at h
  have e1 : IntKind.i64.min = -9223372036854775808 := rfl
  have e2 : IntKind.i64.max = 9223372036854775807 := rfl
  omega
theorem cellsMap : Tryz.prog.cellsOf 28 = 11 := by kernel_rfl
theorem cellsDay : Tryz.prog.cellsOf 23 = 1 := by kernel_rfl
theorem cellsInt : Tryz.prog.cellsOf 24 = 1 := by kernel_rfl
theorem cellsStr : Tryz.prog.cellsOf 9 = 1 := by kernel_rfl
theorem cellsBool : Tryz.prog.cellsOf 4 = 1 := by kernel_rfl
theorem str_of (s : ByteArray) : Value.string s = S s.data.toList := by simp [S]
theorem str_len {s : ByteArray} (h : s.size ≤ maxLen) : s.data.toList.length ≤ maxLen := by rw [Array.length_toList]; exact h
theorem frac_cells {H : Type} {enc : TypeId × Value → H} {W : World} {n : Nat} {x y : Value} {z : DataW H × List MemPlace} (h : DataW.trod enc Tryz.prog W 0 (fun _ => true) true n 26 [x, y] = some z) :
    ∃ f : Fr, x = S f.n ∧ y = S f.d ∧ f.n.length ≤ maxLen ∧ f.d.length ≤ maxLen := by
  obtain ⟨ys, n', hn', hy, hlen, hyl, hfl⟩ := DataW.trod_struct Tryz.underlying26 h
  have g0 : DataW.trod enc Tryz.prog W 0 (fun _ => true) true n' 24 (([x, y].drop 0).take (Tryz.prog.cellsOf 24)) = ys[0]? := hfl 0 _ rfl
  have g1 : DataW.trod enc Tryz.prog W 0 (fun _ => true) true n' 24 (([x, y].drop 1).take (Tryz.prog.cellsOf 24)) = ys[1]? := hfl 1 _ rfl
  rw [cellsInt, List.getElem?_eq_getElem (by rw [hyl]; decide)] at g0 g1
  obtain ⟨s0, e0, _, l0⟩ := DataW.trod_string Tryz.underlying24 g0
  obtain ⟨s1, e1, _, l1⟩ := DataW.trod_string Tryz.underlying24 g1
  simp only [List.drop_zero, List.take_succ_cons, List.take_zero, List.drop_succ_cons, List.cons.injEq, and_true] at e0 e1
  exact ⟨⟨s0.data.toList, s1.data.toList⟩, by rw [e0]; exact str_of s0, by rw [e1]; exact str_of s1, str_len l0, str_len l1⟩
set_option maxRecDepth 100000 in
theorem open_map {H : Type} {enc : TypeId × Value → H} {W : World} {base : Nat} {v : Value} {d : DataW H} {p : List MemPlace} (hv : Value.okWide Tryz.prog W .any base 28 v) (h : DataW.Trod enc Tryz.prog W 0 (fun _ => true) true 28 v d p) :
    ∃ m : Mp, v = MpV m ∧ m.Max ∧ -9223372036854775808 ≤ m.day ∧ m.day ≤ 9223372036854775807 := by
  obtain ⟨cs, rfl, hsz⟩ := okWide_struct Tryz.underlying28 hv
  rw [cellsMap] at hsz
  obtain ⟨fuel, hf⟩ := h
  obtain ⟨ys, n', hn', hy, hlen, hyl, hfl⟩ := DataW.trod_struct Tryz.underlying28 hf
  obtain ⟨c, hc⟩ : ∃ c : List Value, c = cs.toList := ⟨_, rfl⟩
  have hcl : c.length = 11 := by rw [hc, Array.length_toList]; exact hsz
  have hcv : (Value.agg cs).cells.toList = c := by rw [hc]; rfl
  rw [hcv] at hfl hlen
  have hone : ∀ j (hj : j < c.length), (c.drop j).take 1 = [c[j]] := fun j hj => by rw [List.drop_eq_getElem_cons hj]; rfl
  have htwo : ∀ j (hj : j + 1 < c.length), (c.drop j).take 2 = [c[j], c[j + 1]] := fun j hj => by rw [List.drop_eq_getElem_cons (by omega), List.drop_eq_getElem_cons hj]; rfl
  have g0 : DataW.trod enc Tryz.prog W 0 (fun _ => true) true n' 9 ((c.drop 0).take (Tryz.prog.cellsOf 9)) = ys[0]? := hfl 0 _ rfl
  have g1 : DataW.trod enc Tryz.prog W 0 (fun _ => true) true n' 23 ((c.drop 1).take (Tryz.prog.cellsOf 23)) = ys[1]? := hfl 1 _ rfl
  have g2 : DataW.trod enc Tryz.prog W 0 (fun _ => true) true n' 9 ((c.drop 2).take (Tryz.prog.cellsOf 9)) = ys[2]? := hfl 2 _ rfl
  have g3 : DataW.trod enc Tryz.prog W 0 (fun _ => true) true n' 9 ((c.drop 3).take (Tryz.prog.cellsOf 9)) = ys[3]? := hfl 3 _ rfl
  have g4 : DataW.trod enc Tryz.prog W 0 (fun _ => true) true n' 26 ((c.drop 4).take (Tryz.prog.cellsOf 26)) = ys[4]? := hfl 4 _ rfl
  have g5 : DataW.trod enc Tryz.prog W 0 (fun _ => true) true n' 26 ((c.drop 6).take (Tryz.prog.cellsOf 26)) = ys[5]? := hfl 5 _ rfl
  have g6 : DataW.trod enc Tryz.prog W 0 (fun _ => true) true n' 26 ((c.drop 8).take (Tryz.prog.cellsOf 26)) = ys[6]? := hfl 6 _ rfl
  have g7 : DataW.trod enc Tryz.prog W 0 (fun _ => true) true n' 4 ((c.drop 10).take (Tryz.prog.cellsOf 4)) = ys[7]? := hfl 7 _ rfl
  rw [cellsStr, hone _ (by omega), List.getElem?_eq_getElem (by rw [hyl]; decide)] at g0
  rw [cellsDay, hone _ (by omega), List.getElem?_eq_getElem (by rw [hyl]; decide)] at g1
  rw [cellsStr, hone _ (by omega), List.getElem?_eq_getElem (by rw [hyl]; decide)] at g2
  rw [cellsStr, hone _ (by omega), List.getElem?_eq_getElem (by rw [hyl]; decide)] at g3
  rw [cellsFrac, htwo _ (by omega), List.getElem?_eq_getElem (by rw [hyl]; decide)] at g4
  rw [cellsFrac, htwo _ (by omega), List.getElem?_eq_getElem (by rw [hyl]; decide)] at g5
  rw [cellsFrac, htwo _ (by omega), List.getElem?_eq_getElem (by rw [hyl]; decide)] at g6
  rw [cellsBool, hone _ (by omega), List.getElem?_eq_getElem (by rw [hyl]; decide)] at g7
  obtain ⟨s0, e0, _, l0⟩ := DataW.trod_string Tryz.underlying9 g0
  obtain ⟨k1, e1, _, l1⟩ := DataW.trod_int Tryz.underlying23 g1
  obtain ⟨s2, e2, _, l2⟩ := DataW.trod_string Tryz.underlying9 g2
  obtain ⟨s3, e3, _, l3⟩ := DataW.trod_string Tryz.underlying9 g3
  obtain ⟨f4, a4, b4, u4, w4⟩ := frac_cells g4
  obtain ⟨f5, a5, b5, u5, w5⟩ := frac_cells g5
  obtain ⟨f6, a6, b6, u6, w6⟩ := frac_cells g6
  obtain ⟨b7, e7, _⟩ := DataW.trod_bool Tryz.underlying4 g7
  simp only [List.cons.injEq, and_true] at e0 e1 e2 e3 e7
  have hcs : c = [.string s0, .int .i64 k1, .string s2, .string s3, S f4.n, S f4.d, S f5.n, S f5.d, S f6.n, S f6.d, .bool b7] := by
    refine List.ext_getElem (by rw [hcl]; rfl) fun j h1 h2 => ?_
    have hj : j < 11 := by omega
    match j, hj with
    | 0, _ => exact e0
    | 1, _ => exact e1
    | 2, _ => exact e2
    | 3, _ => exact e3
    | 4, _ => exact a4
    | 5, _ => exact b4
    | 6, _ => exact a5
    | 7, _ => exact b5
    | 8, _ => exact a6
    | 9, _ => exact b6
    | 10, _ => exact e7
  refine ⟨⟨s0.data.toList, k1, s2.data.toList, s3.data.toList, f4, f5, f6, b7⟩, ?_, ⟨str_len l0, str_len l2, str_len l3, u4, w4, u5, w5, u6, w6⟩, (wf64 l1).1, (wf64 l1).2⟩
  have : cs = c.toArray := by rw [hc]
  rw [this, hcs, str_of, str_of, str_of]
  rfl
theorem iface_laid {P : Program} {W : World} {name dn : String} {d : DataW Unit} {g : Nat} {t : TypeId} {ms : Array (String × TypeId)} (hg : P.globalNamed name = some g) (hty : (P.globals[g]?).map (·.type) = some t) (hi : P.underlying t = some (.interface ms))
    (h : laidMet P [(name, .iface dn d)] W) : ∃ u v, W.var? P name = some #[.iface u v] := by
  obtain ⟨ps, ⟨g', t', cs, fuel, p, q, hg', ht', hvar, hd, _, _⟩, _⟩ := h
  obtain rfl := Option.some.inj (hg.symm.trans hg')
  obtain rfl := Option.some.inj (hty.symm.trans ht')
  obtain ⟨f', u, v, hcs, _, _⟩ := iface_of_trod hi hd
  refine ⟨u, v, ?_⟩
  rw [hvar]
  congr 1
  exact Array.ext' hcs
noncomputable def laidWorld (os : Os) : World :=
  { World.doorLaid Tryz.prog 400 os with heap := (World.doorLaid Tryz.prog 400 os).heap.modify 4 fun
      | .cells _ t frozen => .cells (Pinned.utf8FirstZ.map fun (n : Nat) => Value.int .u8 (n : Int)).toArray t frozen
      | o => o }
set_option maxRecDepth 100000 in
theorem laid_met (os : Os) (args : Array Value) : laidMet Tryz.prog Rows.lotmapMapsRow.laid ((laidWorld os).forCall (fun _ _ => 0) ⟨#[], args, []⟩).memory :=
  laidMet_of_run' 8 (by kernel_rfl) (by kernel_rfl)
theorem env_of_laid {W : World} (h : laidMetH Tryz.prog Rows.lotmapMapsRow.laid W) : Env W := by
  have h0 : laidMet Tryz.prog Rows.lotmapMapsRow.laid W := h
  have h1 := h0.filter (fun x => x.1 == "internal/strconv.uint64pow10")
  have e : Rows.lotmapMapsRow.laid.filter (fun x => x.1 == "internal/strconv.uint64pow10") = [("internal/strconv.uint64pow10", Lib.tabData .u64 Lib.pow10Tab)] := by kernel_rfl
  rw [e] at h1
  have h2 := h0.filter (fun x => x.1 == "strconv.ErrSyntax")
  have e2 : Rows.lotmapMapsRow.laid.filter (fun x => x.1 == "strconv.ErrSyntax") = [("strconv.ErrSyntax", .iface "*errors.errorString" (.ptr (.agg [.lit (.string [105, 110, 118, 97, 108, 105, 100, 32, 115, 121, 110, 116, 97, 120])])))] := by kernel_rfl
  rw [e2] at h2
  have h3 := h0.filter (fun x => x.1 == "strconv.ErrRange")
  have e3 : Rows.lotmapMapsRow.laid.filter (fun x => x.1 == "strconv.ErrRange") = [("strconv.ErrRange", .iface "*errors.errorString" (.ptr (.agg [.lit (.string [118, 97, 108, 117, 101, 32, 111, 117, 116, 32, 111, 102, 32, 114, 97, 110, 103, 101])])))] := by kernel_rfl
  rw [e3] at h3
  refine ⟨?_, ?_, ?_⟩
  · exact Lib.tabIs_of_head (g := 2) (t := 256) (e := 166) (n := 20) (by kernel_rfl) (by kernel_rfl) Tryz.underlying256 Tryz.underlying166 (by kernel_rfl) (by kernel_rfl) h1
  · exact iface_laid (g := 0) (t := 168) (by kernel_rfl) (by kernel_rfl) Tryz.underlying168 h2
  · exact iface_laid (g := 1) (t := 168) (by kernel_rfl) (by kernel_rfl) Tryz.underlying168 h3
end Go.Proofs.YtpnncoinlopndaaGreatDoor

namespace Go.Proofs.YtpnncoinlopndaaGreatDoor.lawLotmapThens
open Go.ChangeShapes Go.WideShapes Go.ChangeAt Go.RowKit Go.Deep
def Walk : Prop := ∀ (m0 : Mp) (m1 : Mp) (W : World), Env W → m0.Max → (-9223372036854775808 ≤ m0.day ∧ m0.day ≤ 9223372036854775807) → m1.Max → (-9223372036854775808 ≤ m1.day ∧ m1.day ≤ 9223372036854775807) → Calls Tryz.prog 4 #[MpV m0, MpV m1] W fun e w' => e = .returned (.bool true) ∧ Below W.heap.size W w'
set_option maxRecDepth 100000 in
theorem contract (hlaw : Walk) (H : Type) (enc : TypeId × Value → H) (W : World) (hpow : Env W) (base : Nat) (args : Array Value) (ds gs : List (DataW H)) (before : List MemPlace)
    (hval : ∀ (j : Nat) t v, Tryz.f4.params[j]? = some t → args[j]? = some v → Value.okWide Tryz.prog W .any base t v)
    (hW : DataW.Whole enc Tryz.prog Tryz.f4.params.toList Rows.lotmapThensSpec.vars false W args.toList ds gs before) :
    Calls Tryz.prog 4 args W fun e W' => ∃ v, e = .returned v ∧ Rows.lotmapThensSpec.post enc Tryz.prog Tryz.f4 false true false false W args v W' := by
  have hW' := hW
  obtain ⟨p, q, hA0, hV, rfl, hfz, hnd⟩ := hW
  have hA : DataW.TrodAll enc Tryz.prog W 0 (fun _ => true) true Tryz.f4.params.toList args.toList ds p := hA0
  rw [Tryz.params4] at hA hval
  obtain ⟨v0, vs0, d0, ds0, p0, q0, hargs0, rfl, rfl, h0, r0⟩ := trodAll_cons hA
  obtain ⟨v1, vs1, d1, ds1, p1, q1, hargs1, rfl, rfl, h1, r1⟩ := trodAll_cons r0
  obtain ⟨rfl, rfl, rfl⟩ := trodAll_nil r1
  obtain rfl : args = #[v0, v1] := by cases args; simp_all
  obtain ⟨rfl, rfl⟩ := trodVars_none hV
  obtain ⟨m0, rfl, hm0, hd0⟩ := open_map (hval 0 28 v0 (by kernel_rfl) (by kernel_rfl)) h0
  obtain ⟨m1, rfl, hm1, hd1⟩ := open_map (hval 1 28 v1 (by kernel_rfl) (by kernel_rfl)) h1
  refine (hlaw m0 m1 W hpow hm0 hd0 hm1 hd1).mono fun e W' ⟨he, hb⟩ => ?_
  subst he
  refine ⟨_, rfl, post_below laidOut (fun t ht => ?_) (tb := 4) (by kernel_rfl) Tryz.underlying4 rfl rfl hW' hb⟩
  rw [Tryz.params4] at ht
  have hall : ([28, 28].all fun t => Tryz.prog.readableRec t && decide (t < Tryz.prog.types.size)) = true := by kernel_rfl
  have := List.all_eq_true.1 hall t (by simpa using ht)
  simpa using this
theorem reads (os : Os) {H : Type} (enc : TypeId × Value → H) : ∃ places, DataW.whole enc Tryz.prog ((laidWorld os).forCall (fun _ _ => 0) ⟨#[], #[.agg #[.string ⟨#[]⟩, .int .i64 0, .string ⟨#[]⟩, .string ⟨#[]⟩, .string ⟨#[]⟩, .string ⟨#[]⟩, .string ⟨#[]⟩, .string ⟨#[]⟩, .string ⟨#[]⟩, .string ⟨#[]⟩, .bool false], .agg #[.string ⟨#[]⟩, .int .i64 0, .string ⟨#[]⟩, .string ⟨#[]⟩, .string ⟨#[]⟩, .string ⟨#[]⟩, .string ⟨#[]⟩, .string ⟨#[]⟩, .string ⟨#[]⟩, .string ⟨#[]⟩, .bool false]], []⟩).memory Tryz.f4.params.toList Rows.lotmapThensSpec.vars false (#[Value.agg #[.string ⟨#[]⟩, .int .i64 0, .string ⟨#[]⟩, .string ⟨#[]⟩, .string ⟨#[]⟩, .string ⟨#[]⟩, .string ⟨#[]⟩, .string ⟨#[]⟩, .string ⟨#[]⟩, .string ⟨#[]⟩, .bool false], Value.agg #[.string ⟨#[]⟩, .int .i64 0, .string ⟨#[]⟩, .string ⟨#[]⟩, .string ⟨#[]⟩, .string ⟨#[]⟩, .string ⟨#[]⟩, .string ⟨#[]⟩, .string ⟨#[]⟩, .string ⟨#[]⟩, .bool false]] : Array Value).toList 8 = some ([.agg [.lit (.string []), .lit (.int .i64 0), .lit (.string []), .lit (.string []), .agg [.lit (.string []), .lit (.string [])], .agg [.lit (.string []), .lit (.string [])], .agg [.lit (.string []), .lit (.string [])], .lit (.bool false)], .agg [.lit (.string []), .lit (.int .i64 0), .lit (.string []), .lit (.string []), .agg [.lit (.string []), .lit (.string [])], .agg [.lit (.string []), .lit (.string [])], .agg [.lit (.string []), .lit (.string [])], .lit (.bool false)]], [], places) :=
  ⟨[], by kernel_rfl⟩
set_option maxRecDepth 100000 in
theorem lifted (hlaw : Walk) (os : Os) (started : os.Started) (H : Type) (enc : TypeId × Value → H) (F : Stop.Interp) :
    ReturnsInHanded {} Tryz.checked os 4 .any ((OpenSpec.ofChange Rows.lotmapThensSpec).preRow enc Tryz.prog Tryz.f4 Rows.lotmapThensRow.domain false Rows.lotmapThensRow.laid) (((OpenSpec.ofChange Rows.lotmapThensSpec).at F).post enc Tryz.prog Tryz.f4 false true false false) := by
  obtain ⟨places, hx⟩ := reads os enc
  refine returnsInHanded_of_row (C := Tryz.checked) (s := OpenSpec.ofChange Rows.lotmapThensSpec) own started (by kernel_rfl) Tryz.func4
    (witness_row_at (enc := enc) (C := Tryz.checked) false (laidWorld os) #[.agg #[.string ⟨#[]⟩, .int .i64 0, .string ⟨#[]⟩, .string ⟨#[]⟩, .string ⟨#[]⟩, .string ⟨#[]⟩, .string ⟨#[]⟩, .string ⟨#[]⟩, .string ⟨#[]⟩, .string ⟨#[]⟩, .bool false], .agg #[.string ⟨#[]⟩, .int .i64 0, .string ⟨#[]⟩, .string ⟨#[]⟩, .string ⟨#[]⟩, .string ⟨#[]⟩, .string ⟨#[]⟩, .string ⟨#[]⟩, .string ⟨#[]⟩, .string ⟨#[]⟩, .bool false]] rfl (by kernel_rfl) (by kernel_rfl) (by kernel_rfl)
      (OpenSpec.preRow_of_cond 8 hx (by kernel_rfl) (fun k hk => by cases hk) (by kernel_rfl) (laid_met os _))) ?_
  intro W base args ds gs before hval hW _ _ _ hL _ _
  exact contract hlaw H enc W (env_of_laid hL) base args ds gs before hval hW
theorem said (hlaw : Walk) : Rows.LotmapThensSaid :=
  OpenClaim.holds_of_cond 4 Tryz.f4 rfl rfl rfl rfl rfl rfl rfl ⟨rfl, rfl, rfl, rfl, rfl⟩ rfl rfl rfl rfl rfl (by kernel_rfl) Tryz.func4 (by kernel_rfl)
    (of_decide_eq_true (by kernel_rfl)) (by unfold Func.isWrapper; first | (rw [if_pos (by decide +kernel)]; kernel_rfl) | (rw [if_neg (by decide +kernel)]; exact ⟨rfl, rfl⟩))
    (fun os started H enc _ F => by rw [OpenClaim.pre_eq_preRow]; exact lifted hlaw os started H enc F)
theorem plain (f : FuncId) (fn : Func) (hf : Tryz.pinned.checked.prog.funcNamed "tranche/tranchelaw24.LotmapThens" = some f) (hfn : Tryz.pinned.checked.prog.funcs[f]? = some fn) :
    true = Tryz.pinned.checked.prog.looks [] ∧ ∀ (j : Nat) t, fn.params[j]? = some t → Tryz.pinned.checked.prog.wantsStandIn t = false := by
  obtain rfl : f = 4 := Option.some.inj ((show Tryz.prog.funcNamed "tranche/tranchelaw24.LotmapThens" = some 4 by kernel_rfl).symm.trans hf) |>.symm
  obtain rfl : fn = Tryz.f4 := (Option.some.inj (Tryz.func4.symm.trans hfn)).symm
  refine ⟨by kernel_rfl, fun j t ht => ?_⟩
  rw [Tryz.params4] at ht
  have hm : t ∈ [28, 28] := by simpa using Array.mem_of_getElem? ht
  have hall : ([28, 28].all fun u => !Tryz.prog.wantsStandIn u) = true := by kernel_rfl
  exact (show Tryz.prog.wantsStandIn t = false by simpa using List.all_eq_true.1 hall t hm)
theorem card (hlaw : Walk) : Rows.LotmapThensCardSaid :=
  Claim7.holds_tied_plain_at .later [] _ _ _ _ (said hlaw) (fun _ h => by cases h) (by kernel_rfl) (fun _ h => by cases h) lotmapThens_row_tie rfl ⟨rfl, rfl⟩ (by kernel_rfl) rfl plain (by kernel_rfl)
end Go.Proofs.YtpnncoinlopndaaGreatDoor.lawLotmapThens

namespace Go.Proofs.YtpnncoinlopndaaGreatDoor
open Go.RowKit Go.Shelf
def st84 (v u : Value) : Sem Unit := Instr.storeAt 60 v u
theorem st84_eq (v u : Value) : Instr.storeAt 60 v u = st84 v u := rfl
theorem plInfo : (Tryz.prog.info? 60).map (·.size) = some 19 := by kernel_rfl
theorem run_st84 {w : World} {g : Nat} {pb cs : Array Value} (hg : BlkB w g pb 60) (hs : pb.size = 19) (hc : cs.size = 19) (h1 : cs.all (·.oneCell') = true) : (st84 (.pointer (some ⟨g, 0, none⟩)) (.agg cs)).run Tryz.prog w = .ok () (w.setRow g cs) := by
  have e := run_storeVar_row (P := Tryz.prog) w g 60 60 pb cs hg (by rw [plInfo, hc]) (by omega) h1
  unfold st84
  simp only [Instr.storeAt, Instr.sureAddr, Sem.run_bind, Sem.run_pure, Result.andThen_ok, e]
section
variable {w W : World} {g p : Nat} {pb cs ds : Array Value} {T U : TypeId}
theorem BlkB.row (h : BlkB w g pb T) (cs : Array Value) : BlkB (w.setRow g cs) g cs T := setRow_heap w g pb cs T (0, 0) h
theorem BlkB.farRow (h : BlkB w p ds U) (hp : p ≠ g) (cs : Array Value) : BlkB (w.setRow g cs) p ds U := (setRow_other w g p cs hp).trans h
theorem plB_cells (v : PlV) (hn : v.n.oneCell' = true) (hq : v.q.oneCell' = true) (hf : v.f.oneCell' = true) (hp : v.p.oneCell' = true) : (plB v).all (·.oneCell') = true := by
  have h : ∀ s : ByteArray, (Value.string s).oneCell' = true := fun _ => rfl
  unfold plB
  simp only [List.all_toArray, List.all_cons, List.all_nil, hn, hq, hf, hp, h, Bool.and_true]
  rfl
end
theorem elemStrs : ElemT Tryz.prog 58 24 1 16 := elemT_of Tryz.underlying58 (by kernel_rfl) (by decide) (by decide)
theorem strs1 {W : World} {q : Nat} {s : List UInt8} {T : TypeId} (h : BlkB W q #[.string ⟨s.toArray⟩] T) : Strs W W.heap.size (some ⟨q, 0, none⟩) 1 [s] := by
  refine ⟨rfl, fun _ => ⟨q, 0, rfl, h.lt, fun j z hj k u hk => ?_⟩⟩
  cases j with
  | zero =>
    simp only [List.getElem?_cons_zero, Option.some.injEq] at hj
    subst hj
    rw [Nat.zero_mul, Nat.zero_add]
    exact h.cell k (by simpa [S1, S] using hk)
  | succ j => simp at hj
theorem own_sl {α : Type} {enc : α → List Value} {k base n c : Nat} {e : TypeId} {W : World} {A : Option Addr} {xs : List α} {g : Nat} (h : Own enc k e W base (.slice A n c) xs) (hg : (Value.slice A n c).ownBlock = some g) : base ≤ g ∧ g < W.heap.size := by
  obtain ⟨A', c', hv, _, _, _, h5⟩ := h.form
  exact (h5 g hg).2
structure TwoO (base : Nat) (W1 X : World) (A1 : Option Addr) (n1 c1 : Nat) (xs : List (List UInt8)) (A2 : Option Addr) (n2 c2 : Nat) (ys : List (List UInt8)) : Prop where
  o1 : Own S1 1 24 X base (.slice A1 n1 c1) xs
  o2 : Own S1 1 24 X base (.slice A2 n2 c2) ys
  ap : ∀ g, (Value.slice A1 n1 c1).ownBlock = some g → (Value.slice A2 n2 c2).ownBlock ≠ some g
  bl : Below base W1 X
  hb : base ≤ X.heap.size
section
variable {base : Nat} {W1 X Y : World} {A1 A2 A3 : Option Addr} {n1 c1 n2 c2 n3 c3 : Nat} {xs ys zs : List (List UInt8)}
theorem TwoO.nil (hb : base ≤ X.heap.size) (hl : Below base W1 X) : TwoO base W1 X none 0 0 [] none 0 0 [] := ⟨Own.nil, Own.nil, fun g h => by simp [Value.ownBlock] at h, hl, hb⟩
theorem TwoO.alloc (h : TwoO base W1 X A1 n1 c1 xs A2 n2 c2 ys) (o : Obj) : TwoO base W1 (X.alloc o) A1 n1 c1 xs A2 n2 c2 ys := ⟨h.o1.alloc o, h.o2.alloc o, h.ap, h.bl.alloc h.hb o, by have := h.hb; simp; omega⟩
theorem TwoO.drew (h : TwoO base W1 X A1 n1 c1 xs A2 n2 c2 ys) : TwoO base W1 X.drew A1 n1 c1 xs A2 n2 c2 ys := ⟨h.o1, h.o2, h.ap, h.bl.drew, h.hb⟩
theorem TwoO.below (h : TwoO base W1 X A1 n1 c1 xs A2 n2 c2 ys) (hb : Below X.heap.size X Y) : TwoO base W1 Y A1 n1 c1 xs A2 n2 c2 ys := ⟨h.o1.below hb, h.o2.below hb, h.ap, h.bl.trans (hb.mono h.hb), Nat.le_trans h.hb hb.size⟩
theorem TwoO.app1 (h : TwoO base W1 X A1 n1 c1 xs A2 n2 c2 ys) (ho : Own S1 1 24 Y base (.slice A3 n3 c3) zs) (hg : X.grownBy Y (Value.slice A1 n1 c1).ownBlock) (hat : A3.map Addr.block = (Value.slice A1 n1 c1).ownBlock ∨ A3.map Addr.block = some X.heap.size) : TwoO base W1 Y A3 n3 c3 zs A2 n2 c2 ys := by
  refine ⟨ho, h.o2.grown hg ?_, ?_, below_grown h.bl hg h.hb (fun g e => (own_sl h.o1 e).1), Nat.le_trans h.hb hg.size⟩
  · cases e : (Value.slice A2 n2 c2).ownBlock with
    | none => exact .inl rfl
    | some g => exact .inr fun e' => h.ap g e'.symm e
  · intro g e e2
    have e3 : A3.map Addr.block = some g := by cases A3 with | none => simp [Value.ownBlock] at e | some ad => simpa [Value.ownBlock] using e
    rcases hat with hat | hat
    · rw [e3] at hat; exact h.ap g hat.symm e2
    · rw [e3] at hat; injection hat with hat; have := (own_sl h.o2 e2).2; omega
theorem TwoO.app2 (h : TwoO base W1 X A1 n1 c1 xs A2 n2 c2 ys) (ho : Own S1 1 24 Y base (.slice A3 n3 c3) zs) (hg : X.grownBy Y (Value.slice A2 n2 c2).ownBlock) (hat : A3.map Addr.block = (Value.slice A2 n2 c2).ownBlock ∨ A3.map Addr.block = some X.heap.size) : TwoO base W1 Y A1 n1 c1 xs A3 n3 c3 zs := by
  refine ⟨h.o1.grown hg ?_, ho, ?_, below_grown h.bl hg h.hb (fun g e => (own_sl h.o2 e).1), Nat.le_trans h.hb hg.size⟩
  · cases e : (Value.slice A1 n1 c1).ownBlock with
    | none => exact .inl rfl
    | some g => exact .inr fun e' => h.ap g e e'.symm
  · intro g e e2
    have e3 : A3.map Addr.block = some g := by cases A3 with | none => simp [Value.ownBlock] at e2 | some ad => simpa [Value.ownBlock] using e2
    rcases hat with hat | hat
    · rw [e3] at hat; exact h.ap g e hat.symm
    · rw [e3] at hat; injection hat with hat; have := (own_sl h.o1 e).2; omega
end
end Go.Proofs.YtpnncoinlopndaaGreatDoor

namespace Go.Proofs.YtpnncoinlopndaaGreatDoor
open Go.RowKit Go.Shelf
section
variable {w W W' : World} {bs : List (Nat × Array Value × TypeId)} {p : Nat} {cs : Array Value} {T : TypeId}
theorem Own.neBlk {α : Type} {enc : α → List Value} {k base : Nat} {e : TypeId} {x : Value} {xs : List α} (h : Own enc k e W base x xs) (hb : BlkB W p cs T) (hne : e ≠ T) : x.ownBlock ≠ some p := by
  rcases h.2 with ⟨rfl, _⟩ | ⟨g, cap, cur, rfl, _, hg, _⟩
  · simp [Value.ownBlock]
  · intro hh
    simp only [Value.ownBlock, Option.some.injEq] at hh
    subst hh
    unfold BlkB at hb
    rw [hg] at hb
    injection hb with hb
    injection hb with _ ht
    exact hne ht
theorem Own.farB {α : Type} {enc : α → List Value} {k base : Nat} {e : TypeId} {x : Value} {xs : List α} (h : Own enc k e W base x xs) (hb : BlkB W p cs T) (hne : e ≠ T) (j : Nat) (u : Value) : Own enc k e (W.setCell ⟨p, j, none⟩ u) base x xs := h.far (h.neBlk hb hne) u
theorem Own.farR {α : Type} {enc : α → List Value} {k base : Nat} {e : TypeId} {x : Value} {xs : List α} (h : Own enc k e W base x xs) (hb : BlkB W p cs T) (hne : e ≠ T) (ds : Array Value) : Own enc k e (W.setRow p ds) base x xs := by
  refine World.ownsRow.kept h (row := some p) ⟨rfl, rfl, rfl, by simp [World.setRow], fun i _ hi => setRow_other W p i ds (fun e => hi (by rw [e]))⟩ (.inr (h.neBlk hb hne))
theorem Kp.row (h : Kp w bs W) (i : Nat) (hb : bs[i]? = some (p, cs, T)) (ds : Array Value) : Kp w (bs.set i (p, ds, T)) (W.setRow p ds) := by
  have hbl : Below w.heap.size W (W.setRow p ds) := ⟨rfl, rfl, rfl, by simp [World.setRow], fun k hk => setRow_other W p k ds (by have := h.old i hb; omega)⟩
  have hm : (bs.set i (p, ds, T)).map (·.1) = bs.map (·.1) := by
    refine List.ext_getElem? fun k => ?_
    rw [List.getElem?_map, List.getElem?_map, List.getElem?_set]
    split
    · rename_i e
      subst e
      rw [hb]
      split
      · rfl
      · rename_i e2; exact absurd (List.getElem?_eq_some_iff.1 hb).1 e2
    · rfl
  refine ⟨h.pow, h.bl.trans hbl, ?_, by rw [hm]; exact h.ord, ?_⟩
  · intro b hx
    rcases List.mem_or_eq_of_mem_set hx with hx | rfl
    · exact h.own b hx
    · exact h.old i hb
  · intro b hx
    obtain ⟨k, hk⟩ := List.getElem?_of_mem hx
    rw [List.getElem?_set] at hk
    split at hk
    · split at hk
      · injection hk with hk
        subst hk
        exact (h.at_ i hb).row ds
      · cases hk
    · rename_i hik
      obtain ⟨q, es, U⟩ := b
      exact (h.at_ k hk).farRow (h.ne k i hk hb (fun e => hik e.symm)) ds
structure Pr (w : World) (Ao : Option Addr) (N co : Nat) (old : List Lot) (A1 : Option Addr) (c1 : Nat) (qs : List (List UInt8)) (A2 : Option Addr) (c2 : Nat) (ks : List (List UInt8)) (bs : List (Nat × Array Value × TypeId)) (W : World) : Prop where
  k : Kp w bs W
  o : Own L7 7 54 W w.heap.size (.slice Ao N co) old
  q : Own S1 1 24 W w.heap.size (.slice A1 N c1) qs
  c : Own S1 1 24 W w.heap.size (.slice A2 N c2) ks
variable {Ao A1 A2 : Option Addr} {N co c1 c2 : Nat} {old : List Lot} {qs ks : List (List UInt8)}
theorem Pr.here (h : Pr w Ao N co old A1 c1 qs A2 c2 ks bs W) (hb : Below W.heap.size W W') : Pr w Ao N co old A1 c1 qs A2 c2 ks bs W' := ⟨h.k.here hb, h.o.below hb, h.q.below hb, h.c.below hb⟩
theorem Pr.drew (h : Pr w Ao N co old A1 c1 qs A2 c2 ks bs W) : Pr w Ao N co old A1 c1 qs A2 c2 ks bs W.drew := h.here (Below.refl _ _).drew
theorem Pr.new (h : Pr w Ao N co old A1 c1 qs A2 c2 ks bs W) (p : Nat) (hp : p = W.heap.size) (cs : Array Value) (T : TypeId) : Pr w Ao N co old A1 c1 qs A2 c2 ks ((p, cs, T) :: bs) (W.alloc (.cells cs T)) :=
  ⟨h.k.new p hp cs T, h.o.alloc _, h.q.alloc _, h.c.alloc _⟩
theorem Pr.add (h : Pr w Ao N co old A1 c1 qs A2 c2 ks bs W) (hb : Below W.heap.size W W') (p : Nat) (hp : W.heap.size ≤ p) (hB : BlkB W' p cs T) : Pr w Ao N co old A1 c1 qs A2 c2 ks ((p, cs, T) :: bs) W' := by
  have h' := h.here hb
  refine ⟨⟨h'.k.pow, h'.k.bl, ?_, ?_, ?_⟩, h'.o, h'.q, h'.c⟩
  · intro b hx
    rcases List.mem_cons.1 hx with rfl | hx
    · exact Nat.le_trans h.k.bl.size hp
    · exact h'.k.own b hx
  · refine .cons (fun b hx => ?_) h'.k.ord
    obtain ⟨x, hy, rfl⟩ := List.mem_map.1 hx
    have := (h.k.blk x hy).lt
    intro e
    have e' : p = x.1 := e
    omega
  · intro b hx
    rcases List.mem_cons.1 hx with rfl | hx
    · exact hB
    · exact h'.k.blk b hx
theorem Pr.set (h : Pr w Ao N co old A1 c1 qs A2 c2 ks bs W) (i j : Nat) (hb : bs[i]? = some (p, cs, T)) (h1 : 54 ≠ T) (h2 : 24 ≠ T) (v : Value) : Pr w Ao N co old A1 c1 qs A2 c2 ks (bs.set i (p, cs.setIfInBounds j v, T)) (W.setCell ⟨p, j, none⟩ v) :=
  ⟨h.k.set i j hb v, h.o.farB (h.k.at_ i hb) h1 j v, h.q.farB (h.k.at_ i hb) h2 j v, h.c.farB (h.k.at_ i hb) h2 j v⟩
theorem Pr.row (h : Pr w Ao N co old A1 c1 qs A2 c2 ks bs W) (i : Nat) (hb : bs[i]? = some (p, cs, T)) (h1 : 54 ≠ T) (h2 : 24 ≠ T) (ds : Array Value) : Pr w Ao N co old A1 c1 qs A2 c2 ks (bs.set i (p, ds, T)) (W.setRow p ds) :=
  ⟨h.k.row i hb ds, h.o.farR (h.k.at_ i hb) h1 ds, h.q.farR (h.k.at_ i hb) h2 ds, h.c.farR (h.k.at_ i hb) h2 ds⟩
end
def PlanPost (m : Mp) (ls : List Lot) (w : World) (e : Ending) (w' : World) : Prop :=
  ∃ v pn pm pf pp, e = .returned (.agg (plB v)) ∧ v.m = m ∧ PlM w' w'.heap.size v (planL (lotsOf ls m.inst) m) (lotsOf ls m.inst) pn pm pf pp ∧ Below w.heap.size w w'
theorem partA_strs {W : World} {p n : Nat} {l : List Int} (h : BlkB W p (partA l n n) 24) (hn : l.length = n) : Strs W W.heap.size (some ⟨p, 0, none⟩) n (l.map txtL) := by
  refine ⟨by rw [List.length_map, hn], fun _ => ⟨p, 0, rfl, h.lt, fun j z hj k u hk => ?_⟩⟩
  obtain ⟨hj1, hj2⟩ := List.getElem?_eq_some_iff.1 hj
  rw [List.length_map] at hj1
  have hk0 : k = 0 := by have := (List.getElem?_eq_some_iff.1 hk).1; rw [S1_len] at this; omega
  subst hk0
  have hu : u = .string ⟨z.toArray⟩ := by simpa [S1, S] using hk.symm
  have hz : z = txtL (l.getD j 0) := by
    rw [← hj2, List.getElem_map, List.getD_eq_getElem?_getD, List.getElem?_eq_getElem hj1]
    rfl
  rw [hu, hz, Nat.zero_add, Nat.mul_one, Nat.add_zero]
  exact h.cell j (by rw [partA_get _ _ _ _ (by omega), if_pos (by omega)])
end Go.Proofs.YtpnncoinlopndaaGreatDoor

