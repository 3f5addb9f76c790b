/- Tools for the rows: what stays of the arguments' readings below a block number; a slice of regions that came in; the witness's world. -/
import Derived.Test.YtiefdlfninhbgaaGreatDoorCards
import Derived.Test.YtiefdlfninhbgaaGreatDoorTie
import Derived.Test.YtiefdlfninhbgaaGreatDoorReg
import Derived.ProofKit
import Derived.OpenShut
import Derived.Carry
import Derived.LaidMore
import Derived.Deep.Slices
import Derived.Deep.DeepHandedRow
import Derived.Lib.LaidTab
namespace Go.Proofs.YtiefdlfninhbgaaGreatDoor
open Go.ChangeShapes Go.WideShapes Go.ChangeAt Go.RowKit Go.Deep

theorem laidOut : laidOutB Tryz.prog = true := by kernel_rfl
theorem own : ownKnob Tryz.prog.godebug = none := by kernel_rfl

section
variable {H : Type} {enc : TypeId × Value → H} {P : Program}
theorem trodAll_stays (hl : laidOutB P = true) : ∀ {ts : List TypeId} {vs : List Value} {ds : List (DataW H)} {ps : List MemPlace} {W W' : World} {sp : Nat → Bool}, (∀ t ∈ ts, P.readableRec t = true ∧ t < P.types.size) →
    DataW.TrodAll enc P W 0 (fun _ => true) true ts vs ds ps → (∀ p ∈ ps, W.sameAt W' p) → (∀ p ∈ ps, sp p.block = true) → DataW.TrodAll enc P W' 0 sp true ts vs ds ps := by
  intro ts
  induction ts with
  | nil =>
    intro vs ds ps W W' sp _ h _ _
    obtain ⟨rfl, rfl, rfl⟩ := trodAll_nil h
    exact trodAll_mk0
  | cons t ts ih =>
    intro vs ds ps W W' sp hr h hs hp
    obtain ⟨v, vs', d, ds', p, q, rfl, rfl, rfl, h1, h2⟩ := trodAll_cons h
    refine trodAll_cons_mk (WideElems.Trod_stays hl (hr t (by simp)).1 (hr t (by simp)).2 h1 (fun x hx => hs x (by simp [hx])) (fun x hx => hp x (by simp [hx]))) (ih (fun t' ht' => hr t' (by simp [ht'])) h2 (fun x hx => hs x (by simp [hx])) (fun x hx => hp x (by simp [hx])))

/-- A law's post: it returned true, and below its own blocks nothing has turned. -/
theorem post_below {f : Func} {s : ChangeSpec} {apart fresh handsOn again : Bool} {W W' : World} {args : Array Value} {ds gs : List (DataW H)} {before : List MemPlace} {tb : TypeId}
    (hl : laidOutB P = true) (hr : ∀ t ∈ f.params.toList, P.readableRec t = true ∧ t < P.types.size) (hrt : f.resultTypes = #[tb]) (hbt : P.underlying tb = some .bool) (hv : s.vars = [])
    (hfn : s.fn H (ds ++ gs) = { results := [.lit (.bool true)], args := ds })
    (hW : DataW.Whole enc P f.params.toList s.vars apart W args.toList ds gs before) (hb : Below W.heap.size W W') : s.post enc P f apart fresh handsOn again W args (.bool true) W' := by
  have hlt : ∀ p ∈ before, p.block < W.heap.size := hW.lt
  have hold : ∀ p ∈ before, (fun b => decide (b < W.heap.size)) p.block = true := fun p hp => by simpa using hlt p hp
  have hW' := hW
  obtain ⟨p, q, hA, hV, hpq, hz, hn⟩ := hW
  rw [hv] at hV
  obtain ⟨rfl, rfl⟩ := trodVars_none hV
  simp only [List.append_nil] at hpq
  subst hpq
  have hargs : ∀ sp : Nat → Bool, (∀ x ∈ before, sp x.block = true) → DataW.TrodAll enc P W' 0 sp true f.params.toList args.toList ds before :=
    fun sp hs => trodAll_stays hl hr hA (fun x hx => hb.same (hlt x hx)) hs
  have hres : ∀ (b : Nat) (sp : Nat → Bool) (hd : Bool), DataW.TrodAll enc P W' b sp hd f.resultTypes.toList ((Value.bool true).resultList f.resultTypes.size) (s.fn H (ds ++ [])).results [] := by
    intro b sp hd
    rw [hfn, hrt]
    exact trodAll_mk1 (shut_bool hbt _)
  have hvars : ∀ sp : Nat → Bool, DataW.TrodVars enc P W' sp s.vars (s.fn H (ds ++ [])).vars [] := by
    intro sp
    rw [hfn, hv]
    rfl
  refine ⟨ds, [], before, [], before, [], hW', hres _ _ _, by rw [hfn]; exact hargs _ hold, hvars _, World.keptBut_mono (fun x hx => ⟨hx, Or.inr (by simpa using hx)⟩) (hb.frame (· ∈ before)), fun _ => ?_⟩
  have hres2 := hres 0 (fun _ => true) true
  have hvars2 := hvars (fun _ => true)
  rw [hfn] at hres2 hvars2
  refine ⟨ok_one hrt rfl (okWide_bool_mk hbt _), _, _, ([] ++ before) ++ [], ⟨[] ++ before, [], trodAll_append (hargs _ (fun _ _ => rfl)) hres2, hvars2, rfl, ?_, ?_⟩, ?_⟩
  · intro b off hp
    have hp' : MemPlace.cell b off ∈ before := by simpa using hp
    rw [hb.frozen (p := ⟨b, off, none⟩) (hlt _ hp')]
    exact hz b off (by simpa using hp)
  · intro ha
    have := hn ha
    simpa using this
  · intro x hx _
    simpa using hx
end

theorem build_list {α : Type} {P : Nat → α → Prop} : ∀ n, (∀ i, i < n → ∃ r, P i r) → ∃ xs : List α, xs.length = n ∧ ∀ i r, xs[i]? = some r → P i r := by
  intro n
  induction n with
  | zero => intro _; exact ⟨[], rfl, fun i r h => by simp at h⟩
  | succ n ih =>
    intro h
    obtain ⟨xs, hl, hx⟩ := ih (fun i hi => h i (by omega))
    obtain ⟨r, hr⟩ := h n (by omega)
    refine ⟨xs ++ [r], by simp [hl], fun i r' hi => ?_⟩
    by_cases hlt : i < xs.length
    · rw [List.getElem?_append_left hlt] at hi; exact hx i r' hi
    · rw [List.getElem?_append_right (by omega)] at hi
      have hlen := (List.getElem?_eq_some_iff.1 hi).1
      simp at hlen
      have e : i = n := by omega
      subst e
      rw [show i - xs.length = 0 by omega] at hi
      simp at hi
      subst hi; exact hr
theorem cellsReg : Tryz.prog.cellsOf 35 = 4 := by kernel_rfl
theorem cellsDay : Tryz.prog.cellsOf 23 = 1 := by kernel_rfl
theorem cellsInt : Tryz.prog.cellsOf 3 = 1 := by kernel_rfl

set_option maxRecDepth 10000 in
theorem open_regs {H : Type} {enc : TypeId × Value → H} {W : World} {base : Nat} {v : Value} {d : DataW H} {p : List MemPlace} (hv : Value.okWide Tryz.prog W .any base 22 v) (h : DataW.Trod enc Tryz.prog W 0 (fun _ => true) true 22 v d p) :
    ∃ A n c xs, v = .slice A n c ∧ n ≤ maxLen ∧ Rgs W W.heap.size A n xs := by
  obtain ⟨a0, len, cap, rfl⟩ := okWide_slice Tryz.underlying22 hv
  obtain ⟨fuel, hf⟩ := h
  rcases open_slice Tryz.underlying22 hf with ⟨hcs, hx⟩ | ⟨a, len', cap', m, n, D, Pl, hcs, _, hl, hm, hmm, hx, hi⟩
  · simp [Value.cells] at hcs
    obtain ⟨rfl, rfl, rfl⟩ := hcs
    exact ⟨none, 0, 0, [], rfl, Nat.zero_le _, Sl.nil⟩
  · simp [Value.cells] at hcs
    obtain ⟨rfl, rfl, rfl⟩ := hcs
    simp only [if_true] at hmm
    subst hmm
    obtain ⟨b, off, spot⟩ := a
    rw [cellsReg] at hi
    have hspot : 0 < len → spot = none := by
      intro h0
      obtain ⟨cs', hc, _⟩ := hi 0 (by omega)
      obtain ⟨_, hcl, hat⟩ := World.cells?_some hc
      have hc0 := hat 0 (by omega)
      rw [List.getElem?_eq_getElem (by omega)] at hc0
      simpa [Addr.add] using World.cell?_spot hc0
    have key : ∀ i, i < len → ∃ r : Reg, b < W.heap.size ∧ spot = none ∧ ∀ j u, r.vals[j]? = some u → W.cell? ⟨b, off + i * 4 + j, none⟩ = some u := by
      intro i hil
      obtain ⟨cs', hc, ht'⟩ := hi i (by omega)
      obtain ⟨ys, n', hn', hy, hlen, hyl, hfl⟩ := DataW.trod_struct Tryz.underlying35 ht'
      obtain ⟨_, hcl, hat⟩ := World.cells?_some hc
      have hone : ∀ j (hj : j < cs'.length), (cs'.drop j).take 1 = [cs'[j]] := fun j hj => by rw [List.drop_eq_getElem_cons hj]; rfl
      have g0 : DataW.trod enc Tryz.prog W 0 (fun _ => true) true n' 23 ((cs'.drop 0).take (Tryz.prog.cellsOf 23)) = ys[0]? := hfl 0 _ rfl
      have g1 : DataW.trod enc Tryz.prog W 0 (fun _ => true) true n' 23 ((cs'.drop 1).take (Tryz.prog.cellsOf 23)) = ys[1]? := hfl 1 _ rfl
      have g2 : DataW.trod enc Tryz.prog W 0 (fun _ => true) true n' 3 ((cs'.drop 2).take (Tryz.prog.cellsOf 3)) = ys[2]? := hfl 2 _ rfl
      have g3 : DataW.trod enc Tryz.prog W 0 (fun _ => true) true n' 3 ((cs'.drop 3).take (Tryz.prog.cellsOf 3)) = ys[3]? := hfl 3 _ rfl
      rw [cellsReg] at hlen
      rw [cellsDay, hone _ (by omega), List.getElem?_eq_getElem (by rw [hyl]; decide)] at g0 g1
      rw [cellsInt, hone _ (by omega), List.getElem?_eq_getElem (by rw [hyl]; decide)] at g2 g3
      obtain ⟨k0, e0, _⟩ := DataW.trod_int Tryz.underlying23 g0
      obtain ⟨k1, e1, _⟩ := DataW.trod_int Tryz.underlying23 g1
      obtain ⟨k2, e2, _⟩ := DataW.trod_int Tryz.underlying3 g2
      obtain ⟨k3, e3, _⟩ := DataW.trod_int Tryz.underlying3 g3
      simp only [List.cons.injEq, and_true] at e0 e1 e2 e3
      have hc0 := hat 0 (by omega)
      rw [List.getElem?_eq_getElem (by omega), e0] at hc0
      have hsp := hspot (by omega)
      subst hsp
      rw [Addr.add_lit, Addr.add_lit] at hc0
      have hbl : b < W.heap.size := by
        by_cases hh : b < W.heap.size
        · exact hh
        · have hnone : W.heap[b]? = none := Array.getElem?_eq_none (by omega)
          simp [World.cell?, hnone] at hc0
      refine ⟨⟨k0, k1, k2, k3⟩, hbl, rfl, fun j u hu => ?_⟩
      have hj : j < 4 := by have := (List.getElem?_eq_some_iff.1 hu).1; simpa [Reg.vals] using this
      have hcj := hat j (by omega)
      rw [List.getElem?_eq_getElem (by omega)] at hcj
      have hu' : u = cs'[j]'(by omega) := by
        match j, hj, hu with
        | 0, _, hu => simp [Reg.vals] at hu; rw [← hu, e0]
        | 1, _, hu => simp [Reg.vals] at hu; rw [← hu, e1]
        | 2, _, hu => simp [Reg.vals] at hu; rw [← hu, e2]
        | 3, _, hu => simp [Reg.vals] at hu; rw [← hu, e3]
      rw [Addr.add_lit, Addr.add_lit] at hcj
      rw [hu']
      exact hcj
    obtain ⟨xs, hxl, hxp⟩ := build_list len key
    refine ⟨_, len, _, xs, rfl, by omega, hxl.symm, fun hn => ?_⟩
    obtain ⟨r, hb, hs, _⟩ := key 0 hn
    subst hs
    exact ⟨b, off, rfl, hb, fun i x hix j u hju => (hxp i x hix).2.2 j u hju⟩

end Go.Proofs.YtiefdlfninhbgaaGreatDoor
