/- Merged texts: Tbo, Lv, Mv, Ri, Lof, Lp3, Lp4. -/
import Derived.Test.YtpnncoinlopndaaGreatDoorQGTn1
import Derived.Test.YtpnncoinlopndaaGreatDoorQGTn7
import Derived.Test.YtpnncoinlopndaaGreatDoorQGTn8
import Derived.Test.YtpnncoinlopndaaGreatDoorQGTn11
import Derived.Test.YtpnncoinlopndaaGreatDoorQGTn9
import Derived.Deep.RegionHeld3
import Derived.Laws.Concat
import Derived.Test.YtpnncoinlopndaaGreatDoorQGTn5
import Derived.RangeFuncNested
import Derived.RangeFuncBound
import Derived.RangeFuncCalls
import Derived.RangeFuncLeaves
import Derived.Shelf.Abstract
import Derived.Shelf.RegionOpen
import Derived.WalkKit
import Derived.OwnWalkIn
import Derived.TacticsInMore
import Derived.LoopNIn
import Derived.LoopIn
namespace Go.Proofs.YtpnncoinlopndaaGreatDoor
open Go.RowKit Go.Shelf
theorem itoa_any (n : Int) (h0 : -9223372036854775808 ≤ n) (h1 : n ≤ 9223372036854775807) (w : World) (hp : Pow w) :
    Calls Tryz.prog 172 #[.int .i64 n] w fun e w' => e = .returned (S (Lib.itoa n)) ∧ Below w.heap.size w w' := by
  refine (Tryz.strconv_Itoa n h0 h1 w hp).mono ?_
  rintro e w' ⟨rfl, k, os, rfl⟩
  exact ⟨rfl, Lib.below_grow _ w (Nat.le_refl _) k os⟩
theorem itoa_len (n : Int) (h0 : -9223372036854775808 ≤ n) (h1 : n ≤ 9223372036854775807) : (Lib.itoa n).length ≤ 20 := by
  unfold Lib.itoa
  split
  · rw [List.length_cons]
    have := decDigits_len n.natAbs (by omega)
    omega
  · have := decDigits_len n.toNat (by omega)
    omega
theorem of_any (n : Int) (h0 : -9223372036854775808 ≤ n) (h1 : n ≤ 9223372036854775807) (w : World) (hp : Pow w) :
    Calls Tryz.prog 130 #[.int .i64 n] w fun e w' => e = .returned (S (ofL n)) ∧ Below w.heap.size w w' := by
  have H1 := Lib.hid (itoa_any n h0 h1 w hp)
  have hl := itoa_len n h0 h1
  have H2 := Lib.hid (fun W => canonical_any (Lib.itoa n) W (by omega))
  have HO := Lib.hid (show ofL n = canonL (Lib.itoa n) from rfl)
  clear hl h0 h1 hp
  generalize Lib.itoa n = s at *
  unfold S at *
  go_enter Tryz.func130, Tryz.ntmps130
  go_wp2_with (first
    | (go_at_call 172; refine H1.out.mono ?_; rintro e w1 ⟨rfl, hb1⟩)
    | (go_at_call 110; refine (H2.out _).mono ?_; rintro e w2 ⟨rfl, hb2⟩))
  go_ret
  rw [HO.out]
  exact ⟨rfl, hb1.trans (hb2.mono hb1.size)⟩
end Go.Proofs.YtpnncoinlopndaaGreatDoor

namespace Go.Proofs.YtpnncoinlopndaaGreatDoor
open Go.RowKit Go.Shelf
def L7 (l : Lot) : List Value := [S l.id, S l.inst, .int .i64 l.acq, .int .i64 l.opn, S l.q, S l.c, S l.u]
def LotV (l : Lot) : Value := .agg #[S l.id, S l.inst, .int .i64 l.acq, .int .i64 l.opn, S l.q, S l.c, S l.u]
theorem L7_len (l : Lot) : (L7 l).length = 7 := rfl
theorem L7_cell (l : Lot) : ∀ u ∈ L7 l, u.oneCell' = true := by
  intro u hu
  simp only [L7, List.mem_cons, List.mem_nil_iff, or_false] at hu
  rcases hu with rfl | rfl | rfl | rfl | rfl | rfl | rfl <;> rfl
abbrev Lots (w : World) (B : Nat) (A : Option Addr) (n : Nat) (xs : List Lot) : Prop := Sl L7 7 w B A n xs
structure Lot.Sz (L : Nat) (l : Lot) : Prop where
  id : l.id.length ≤ L
  inst : l.inst.length ≤ L
  q : l.q.length ≤ L
  c : l.c.length ≤ L
  u : l.u.length ≤ L
  a1 : -9223372036854775808 ≤ l.acq
  a2 : l.acq ≤ 9223372036854775807
  o1 : -9223372036854775808 ≤ l.opn
  o2 : l.opn ≤ 9223372036854775807
end Go.Proofs.YtpnncoinlopndaaGreatDoor

namespace Go.Proofs.YtpnncoinlopndaaGreatDoor
open Go.RowKit Go.Shelf
attribute [local go_sem ↓] Go.wp_at_zero Go.wp_at_succ
structure PlM (W : World) (B : Nat) (v : PlV) (x : Plan) (old : List Lot) (pn pm pf pp : Nat) : Prop where
  len : v.on = old.length
  lots : Lots W B v.oA v.on old
  parts : v.parts = txtL x.parts
  part : v.part = frOf x.part
  en : v.n = .slice (some ⟨pn, 0, none⟩) v.on v.on
  em : v.q = .slice (some ⟨pm, 0, none⟩) v.on v.on
  ef : v.f = .slice (some ⟨pf, 0, none⟩) v.on v.on
  ep : v.p = .slice (some ⟨pp, 0, none⟩) v.on v.on
  bn : BlkB W pn (partA x.n v.on v.on) 24
  bm : BlkB W pm (partA x.m v.on v.on) 24
  bf : BlkB W pf (partA x.f v.on v.on) 24
  bp : BlkB W pp (partA x.p v.on v.on) 24
  ln : pn < B
  lm : pm < B
  lf : pf < B
  lp : pp < B
section
variable {W W' : World} {B : Nat} {v : PlV} {x : Plan} {old : List Lot} {pn pm pf pp : Nat}
theorem PlM.kept (h : PlM W B v x old pn pm pf pp) (hB : B ≤ W.heap.size) (hb : ∀ b, b < B → W'.heap[b]? = W.heap[b]?) : PlM W' B v x old pn pm pf pp :=
  { h with lots := h.lots.keep fun p hp => World.cell?_of_block (hb p.block hp), bn := (hb _ h.ln).trans h.bn, bm := (hb _ h.lm).trans h.bm, bf := (hb _ h.lf).trans h.bf, bp := (hb _ h.lp).trans h.bp }
theorem PlM.below (h : PlM W B v x old pn pm pf pp) (hb : Below B W W') : PlM W' B v x old pn pm pf pp :=
  { h with lots := h.lots.below hb, bn := (hb.block _ h.ln).trans h.bn, bm := (hb.block _ h.lm).trans h.bm, bf := (hb.block _ h.lf).trans h.bf, bp := (hb.block _ h.lp).trans h.bp }
theorem PlM.more {B' : Nat} (h : PlM W B v x old pn pm pf pp) (hB : B ≤ B') : PlM W B' v x old pn pm pf pp :=
  { h with lots := h.lots.more hB, ln := Nat.lt_of_lt_of_le h.ln hB, lm := Nat.lt_of_lt_of_le h.lm hB, lf := Nat.lt_of_lt_of_le h.lf hB, lp := Nat.lt_of_lt_of_le h.lp hB }
end
structure PlSz (K : Nat) (x : Plan) : Prop where
  n : ∀ i, (txtL (x.n.getD i 0)).length ≤ K
  m : ∀ i, (txtL (x.m.getD i 0)).length ≤ K
  f : ∀ i, (txtL (x.f.getD i 0)).length ≤ K
  p : ∀ i, (txtL (x.p.getD i 0)).length ≤ K
def plB (v : PlV) : Array Value := #[.string ⟨v.m.cause.toArray⟩, .int .i64 v.m.day, .string ⟨v.m.inst.toArray⟩, .string ⟨v.m.other.toArray⟩, .string ⟨v.m.ratio.n.toArray⟩, .string ⟨v.m.ratio.d.toArray⟩, .string ⟨v.m.share.n.toArray⟩, .string ⟨v.m.share.d.toArray⟩, .string ⟨v.m.price.n.toArray⟩, .string ⟨v.m.price.d.toArray⟩, .bool v.m.keep, .slice v.oA v.on v.oc, .string ⟨v.parts.toArray⟩, .string ⟨v.part.n.toArray⟩, .string ⟨v.part.d.toArray⟩, v.n, v.q, v.f, v.p]
theorem plA_eq (v : PlV) : (plA v).toArray = plB v := rfl
def ld84 (v : Value) : Sem Value := Instr.loadAt 60 v
theorem ld84_eq (v : Value) : Instr.loadAt 60 v = ld84 v := rfl
theorem run_ld84 {w : World} {g : Nat} {pb : Array Value} (hg : BlkB w g pb 60) (hs : pb.size = 19) : (ld84 (.pointer (some ⟨g, 0, none⟩))).run Tryz.prog w = .ok (.agg pb) w := by
  have e := run_loadVar_row (P := Tryz.prog) w g 60 60 pb (0, 0) _ hg Tryz.underlying60 rfl (by rw [hs]; kernel_rfl)
  unfold ld84
  simp only [Instr.loadAt, Instr.sureAddr, Sem.run_bind, Sem.run_pure, Result.andThen_ok, e]
set_option maxRecDepth 100000 in
set_option maxHeartbeats 2000000 in
theorem mMoved_any (v : PlV) (x : Plan) (old : List Lot) (pn pm pf pp i : Nat) (w : World) (hp : Env w) (h : PlM w w.heap.size v x old pn pm pf pp) (hz : PlSz 50000 x) (hi : i < old.length) (hn : old.length ≤ 1000000) :
    Calls Tryz.prog 78 #[.agg (plA v).toArray, .int .i64 i] w fun e w' => e = .returned (S (txtL (x.mv i))) ∧ Below w.heap.size w w' := by
  have HSU := Lib.hid (fun W hp => Sub_any (txtL (x.m.getD i 0)) (txtL (x.f.getD i 0)) W hp (by have := hz.m i; omega) (by have := hz.f i; omega))
  rw [val_txtL, val_txtL, show x.m.getD i 0 - x.f.getD i 0 = x.mv i from rfl] at HSU
  have H := Lib.hid ((Kp.start hp).new w.heap.size rfl (plB v) 60)
  have hlen := h.len
  have PM := Lib.hid (show ∀ W, Below w.heap.size w W → W.cell? ⟨pm, i, none⟩ = some (.string ⟨(txtL (x.m.getD i 0)).toArray⟩) ∧ W.cell? ⟨pf, i, none⟩ = some (.string ⟨(txtL (x.f.getD i 0)).toArray⟩) from fun W hb =>
    ⟨(h.below hb).bm.cell i (by rw [partA_get _ _ _ _ (by omega), if_pos (by omega)]), (h.below hb).bf.cell i (by rw [partA_get _ _ _ _ (by omega), if_pos (by omega)])⟩)
  have e16 : (plB v)[16]? = some (.slice (some ⟨pm, 0, none⟩) v.on v.on) := by rw [← h.em]; rfl
  have e17 : (plB v)[17]? = some (.slice (some ⟨pf, 0, none⟩) v.on v.on) := by rw [← h.ef]; rfl
  have HX := Lib.hid (show ∀ W, Kp w [(w.heap.size, plB v, 60)] W → W.cell? ⟨w.heap.size, 16, none⟩ = some (.slice (some ⟨pm, 0, none⟩) v.on v.on) ∧ W.cell? ⟨w.heap.size, 17, none⟩ = some (.slice (some ⟨pf, 0, none⟩) v.on v.on) ∧ W.cell? ⟨pm, i, none⟩ = some (.string ⟨(txtL (x.m.getD i 0)).toArray⟩) ∧ W.cell? ⟨pf, i, none⟩ = some (.string ⟨(txtL (x.f.getD i 0)).toArray⟩) from
    fun W hW => ⟨hW.c 0 16 rfl e16, hW.c 0 17 rfl e17, (PM.out W hW.bl).1, (PM.out W hW.bl).2⟩)
  rw [plA_eq]
  generalize plB v = pb at *
  obtain ⟨n, hn'⟩ : ∃ n, n = v.on := ⟨_, rfl⟩
  rw [← hn'] at HX hlen
  have i1 : (0 : Int) ≤ (i : Int) := by omega
  have i2 : (i : Int) < (n : Int) := by omega
  generalize txtL (x.mv i) = res at *
  generalize txtL (x.m.getD i 0) = tm at *
  generalize txtL (x.f.getD i 0) = tf at *
  clear hp h hz hi hn PM e16 e17 hn' hlen
  unfold S at *
  obtain ⟨y0, y1, y2, y3⟩ := HX.out _ H.out
  go_enter Tryz.func78, Tryz.ntmps78
  go_upto_region 1 with (fail)
  generalize w.alloc (.cells pb 60) = W at *
  go_region_held3 (fun w' => w'.cell? ⟨w.heap.size, 16, none⟩ = some (.slice (some ⟨pm, 0, none⟩) n n) ∧ w'.cell? ⟨w.heap.size, 17, none⟩ = some (.slice (some ⟨pf, 0, none⟩) n n) ∧ w'.cell? ⟨pm, i, none⟩ = some (.string ⟨tm.toArray⟩) ∧ w'.cell? ⟨pf, i, none⟩ = some (.string ⟨tf.toArray⟩))
    (first
      | exact k2
      | go_keep)
    (first
      | (go_at_call 67; refine (HSU.out _ H.out.drew.po).mono ?_; rintro e w2 ⟨rfl, hb2⟩; unfold S; have hz : Below W.heap.size W w2 := (Below.refl _ W).drew.trans hb2; have k2 := HX.out _ (H.out.here hz)))
  all_goals
    go_wp2_with fail
    first | go_ret | skip
    exact ⟨rfl, (H.out.here hz).bl⟩
theorem prtL_digs (k : Nat) (hk : 1 ≤ k) : prtL (txtL (k : Int)) = digs k := by rw [prtL_nat, if_neg (by omega)]
set_option maxRecDepth 100000 in
set_option maxHeartbeats 2000000 in
theorem mId_any (v : PlV) (k : Nat) (w : World) (hp : Env w) (hk : 1 ≤ k) (hk2 : k ≤ 1000000) (hc : v.m.cause.length ≤ 50000) :
    Calls Tryz.prog 79 #[.agg (plA v).toArray, .int .i64 k] w fun e w' => e = .returned (S (newId v.m.cause k)) ∧ Below w.heap.size w w' := by
  have H := Lib.hid ((Kp.start hp).new w.heap.size rfl (plB v) 60)
  have HOF := Lib.hid (fun W hp => of_any (k : Int) (by omega) (by omega) W hp)
  rw [ofL_nat k, ← txtL_nat k] at HOF
  have hl : (txtL (k : Int)).length ≤ 8 := txtL_length (n := (k : Int)) (L := 7) (by simp; omega)
  have HPR := Lib.hid (print_any (txtL (k : Int)) (by omega))
  rw [prtL_digs k hk] at HPR
  have HDL := Lib.hid (show (digs k).length ≤ 8 by rw [← txtL_nat k]; exact hl)
  have HID := Lib.hid (show newId v.m.cause k = v.m.cause ++ 47 :: digs k from rfl)
  have HX := Lib.hid (show ∀ W, Kp w [(w.heap.size, plB v, 60)] W → W.cell? ⟨w.heap.size, 0, none⟩ = some (.string ⟨v.m.cause.toArray⟩) from fun W hW => hW.c 0 0 rfl rfl)
  rw [plA_eq]
  generalize plB v = pb at *
  generalize newId v.m.cause k = res at *
  generalize v.m.cause = cs at *
  generalize txtL (k : Int) = tk at *
  generalize digs k = dk at *
  have hdl : dk.length ≤ 8 := by have := HDL.out; omega
  have hs1 : ∀ w, (Op.stringOp .add ⟨cs.toArray⟩ ⟨#[47]⟩).run Tryz.prog w = .ok (.string ⟨(cs ++ [47]).toArray⟩) w := fun w => run_string_add_lists w cs [47] (by omega) (by simp)
  have hs2 : ∀ w, (Op.stringOp .add ⟨(cs ++ [47]).toArray⟩ ⟨dk.toArray⟩).run Tryz.prog w = .ok (.string ⟨((cs ++ [47]) ++ dk).toArray⟩) w := fun w => run_string_add_lists w (cs ++ [47]) dk (by simp; omega) (by omega)
  have HR := Lib.hid (show (cs ++ [47]) ++ dk = res by rw [HID.out]; simp)
  clear hp hk hk2 hl hc hdl HID HDL
  rw [HR.out] at hs2
  generalize cs ++ [47] = cs2 at *
  unfold S at *
  have y0 := HX.out _ H.out
  go_enter Tryz.func79, Tryz.ntmps79
  go_upto_region 1 with (fail)
  generalize w.alloc (.cells pb 60) = W at *
  go_region_held3 (fun w' => w'.cell? ⟨w.heap.size, 0, none⟩ = some (.string ⟨cs.toArray⟩))
    (first
      | exact k2
      | exact k3
      | go_keep)
    (first
      | (go_at_call 130; refine (HOF.out _ H.out.drew.po).mono ?_; rintro e w2 ⟨rfl, hb2⟩; (try unfold S); have hz : Below W.heap.size W w2 := (Below.refl _ W).drew.trans hb2; have k2 := HX.out _ (H.out.here hz))
      | (go_at_call 129; refine (HPR.out _ (H.out.here hz).pw).mono ?_; rintro e w3 ⟨rfl, hb3⟩; have hz2 : Below W.heap.size W w3 := hz.trans (hb3.mono hz.size); have k3 := HX.out _ (H.out.here hz2)))
  all_goals
    go_wp2_with fail
    first | go_ret | skip
    exact ⟨rfl, (H.out.here hz2).bl⟩
end Go.Proofs.YtpnncoinlopndaaGreatDoor

namespace Go.Proofs.YtpnncoinlopndaaGreatDoor
open Go.RowKit Go.Shelf
attribute [local go_sem] Oper.semAt_some
theorem wpListIn_app {α : Type} {enc : α → List Value} {k base : Nat} {e : TypeId} {F : Fence} {nF : Nat} {P : Program} (w : World) {ops : Array Oper} {rest : List Oper} {o : Oper} {a : Act} {Q : Exit → Act → World → Prop} (hgd : o.guard = none) (s x : Operand) (t : TypeId)
    (ho : o.op = .call { callee := .builtin .append, args := #[s, x], argTypes := #[t, t] }) {bytes : Nat} (hT : ElemT P t e k bytes) (he : ∀ x, (enc x).length = k) (h1 : ∀ x, ∀ u ∈ enc x, u.oneCell' = true)
    (v : Value) (xs : List α) (hs : a.eval s = v) (hown : Own enc k e w base v xs) (B : Nat) (A : Option Addr) (m c : Nat) (ys : List α) (hx : a.eval x = .slice A m c) (hr : Sl enc k w B A m ys)
    (hlen : xs.length + m ≤ 100000000000) (hbase : base ≤ w.heap.size)
    (h : ∀ A' c' w', Own enc k e w' base (.slice A' (xs.length + m) c') (xs ++ ys) → w.grownBy w' v.ownBlock → (A'.map Addr.block = v.ownBlock ∨ A'.map Addr.block = some w.heap.size) → wpListIn F nF P ops Q rest (a.put o.dst (.slice A' (xs.length + m) c')) w') : wpListIn F nF P ops Q (o :: rest) a w := by
  refine wpListIn_plain hgd fun K hK => ?_
  obtain ⟨A', c', w', hrun, h2, h3, h4⟩ := run_app (P := P) w t o.type hT he h1 v xs hown B A m c ys hr hlen hbase
  unfold Oper.wpIn
  refine ⟨by simp [Oper.about, ho, resolve, Target.leads, Sem.run_pure], ?_⟩
  rw [Oper.semAt_plain F _ _ (by rw [ho]; intro c hc'; cases hc')]
  simp [execOp, ho, resolve, invoke, builtin, hs, hx, hrun, Result.andThen]
  exact hK _ _ (h A' c' w' h2 h3 h4)
section
variable {w w' W W' X : World} {bs : List (Nat × Array Value × TypeId)} {row : Option Nat} {B : Nat}
def NoCells (B : Nat) (W : World) (row : Option Nat) : Prop := ∀ r, row = some r → B ≤ r ∧ ∃ o : Obj, W.heap[r]? = some o ∧ o.isCells = false
theorem Kp.turned (h : Kp w bs W) (hg : W.grownBy W' row) (hr : NoCells B W row) (hB : w.heap.size ≤ B) : Kp w bs W' := by
  refine ⟨h.pow, h.bl.trans ⟨hg.os, hg.tape, hg.output, hg.size, fun k hk => hg.block k (by have := h.bl.size; omega) (fun e => ?_)⟩, h.own, h.ord, fun b hb => ?_⟩
  · have := (hr k e.symm).1
    omega
  · have hb' := h.blk b hb
    refine (hg.block b.1 hb'.lt (fun e => ?_)).trans hb'
    obtain ⟨_, o, ho, hc⟩ := hr b.1 e.symm
    unfold BlkB at hb'
    rw [hb'] at ho
    injection ho with ho
    rw [← ho] at hc
    cases hc
theorem Own.turned {α : Type} {enc : α → List Value} {k base : Nat} {e : TypeId} {v : Value} {xs : List α} (h : Own enc k e W base v xs) (hg : W.grownBy W' row) (hr : NoCells B W row) : Own enc k e W' base v xs := by
  refine World.ownsRow.kept h hg ?_
  rcases h.2 with ⟨rfl, _⟩ | ⟨g, cap, cur, rfl, _, hgc, _⟩
  · exact .inl rfl
  · right
    intro e
    obtain ⟨_, o, ho, hc⟩ := hr g (by rw [← e]; rfl)
    rw [hgc] at ho
    injection ho with ho
    rw [← ho] at hc
    cases hc
theorem Box.turned {b : Nat} {t : TypeId} {v : Value} (h : Box W b t v) (hg : W.grownBy W' row) (hr : NoCells B W row) : Box W' b t v := by
  refine (hg.block b h.lt (fun e => ?_)).trans h
  obtain ⟨_, o, ho, hc⟩ := hr b e.symm
  unfold Box at h
  rw [h] at ho
  injection ho with ho
  rw [← ho] at hc
  cases hc
theorem grown_none (hb : Below W.heap.size W W') : W.grownBy W' none := ⟨hb.os, hb.tape, hb.output, hb.size, fun k hk _ => hb.block k hk⟩
theorem kf_below (hb : Below W.heap.size W W') (B : Nat) : KeepsFrom B W W' := (KeepsOthers.of_grownBy (grown_none hb) (fun _ _ e => by cases e)).from B
def KeepS (S : Nat → Prop) (W W' : World) : Prop := W.heap.size ≤ W'.heap.size ∧ ∀ b, S b → b < W.heap.size → W'.heap[b]? = W.heap[b]?
theorem KeepS.refl (S : Nat → Prop) (W : World) : KeepS S W W := ⟨Nat.le_refl _, fun _ _ _ => rfl⟩
theorem KeepS.trans {S : Nat → Prop} (h : KeepS S W W') (k : KeepS S W' X) : KeepS S W X := ⟨Nat.le_trans h.1 k.1, fun b hb hl => (k.2 b hb (Nat.lt_of_lt_of_le hl h.1)).trans (h.2 b hb hl)⟩
theorem KeepS.below {S : Nat → Prop} (hb : Below W.heap.size W W') : KeepS S W W' := ⟨hb.size, fun b _ hl => hb.block b hl⟩
theorem KeepS.set {S : Nat → Prop} {p : Addr} (hp : ¬ S p.block) (v : Value) : KeepS S W (W.setCell p v) := ⟨by simp, fun b hb _ => Below.heap_setCell W p v b (fun e => hp (e ▸ hb))⟩
theorem KeepS.put {S : Nat → Prop} {l : Nat} (hl : ¬ S l) (o : Obj) : KeepS S W (W.putObj l o) := ⟨by simp, fun b hb _ => World.putObj_heap_other (fun e => hl (e ▸ hb))⟩
theorem KeepS.grown {S : Nat → Prop} (hg : W.grownBy W' row) (hr : ∀ r, row = some r → ¬ S r) : KeepS S W W' := ⟨hg.size, fun b hb hl => hg.block b hl (fun e => hr b e.symm hb)⟩
theorem KeepS.sl {α : Type} {enc : α → List Value} {k n : Nat} {A : Option Addr} {xs : List α} {S : Nat → Prop} {N : Nat} (h : KeepS S W W') (hs : Sl enc k W N A n xs) (hN : ∀ b, b < N → S b ∧ b < W.heap.size) : Sl enc k W' N A n xs :=
  hs.keep fun p hp => World.cell?_of_block (h.2 p.block (hN _ hp).1 (hN _ hp).2)
theorem KeepS.box {b : Nat} {t : TypeId} {v : Value} {S : Nat → Prop} (h : KeepS S W W') (hs : Box W b t v) (hb : S b) : Box W' b t v := (h.2 b hb hs.lt).trans hs
theorem KeepS.blk {b : Nat} {t : TypeId} {cs : Array Value} {S : Nat → Prop} (h : KeepS S W W') (hs : BlkB W b cs t) (hb : S b) : BlkB W' b cs t := (h.2 b hb hs.lt).trans hs
end
end Go.Proofs.YtpnncoinlopndaaGreatDoor

namespace Go.Proofs.YtpnncoinlopndaaGreatDoor
open Go.RowKit Go.Shelf
attribute [local go_sem] Oper.semAt_some
set_option maxRecDepth 20000 in
theorem lof_any (A : Option Addr) (n c : Nat) (i : List UInt8) (w : World) :
    Calls Tryz.prog 119 #[.slice A n c, S i] w fun e w' => e = .returned (.func (.func 157) #[] #[.pointer (some ⟨w.heap.size, 0, none⟩), .pointer (some ⟨w.heap.size + 1, 0, none⟩)]) ∧ w' = (w.alloc (.cells #[.slice A n c] 22)).alloc (.cells #[.string ⟨i.toArray⟩] 9) := by
  unfold S
  go_enter Tryz.func119, Tryz.ntmps119
  go_wp2
  go_ret
  exact ⟨rfl, rfl⟩
theorem Sl.lot7 {w : World} {B : Nat} {A : Option Addr} {n : Nat} {xs : List Lot} {i : Nat} (h : Lots w B A n xs) (hi : i < n) :
    ∃ b off x, A = some ⟨b, off, none⟩ ∧ b < B ∧ xs[i]? = some x ∧ w.cell? ⟨b, off + i * 7, none⟩ = some (.string ⟨x.id.toArray⟩) ∧ w.cell? ⟨b, off + i * 7 + 1, none⟩ = some (.string ⟨x.inst.toArray⟩) ∧ w.cell? ⟨b, off + i * 7 + 2, none⟩ = some (.int .i64 x.acq) ∧
      w.cell? ⟨b, off + i * 7 + 3, none⟩ = some (.int .i64 x.opn) ∧ w.cell? ⟨b, off + i * 7 + 4, none⟩ = some (.string ⟨x.q.toArray⟩) ∧ w.cell? ⟨b, off + i * 7 + 5, none⟩ = some (.string ⟨x.c.toArray⟩) ∧ w.cell? ⟨b, off + i * 7 + 6, none⟩ = some (.string ⟨x.u.toArray⟩) := by
  obtain ⟨b, off, x, hA, hb, hx, hc⟩ := h.at_ hi
  exact ⟨b, off, x, hA, hb, hx, hc 0 _ rfl, hc 1 _ rfl, hc 2 _ rfl, hc 3 _ rfl, hc 4 _ rfl, hc 5 _ rfl, hc 6 _ rfl⟩
def lotA (x : Lot) : Array Value := #[.string ⟨x.id.toArray⟩, .string ⟨x.inst.toArray⟩, .int .i64 x.acq, .int .i64 x.opn, .string ⟨x.q.toArray⟩, .string ⟨x.c.toArray⟩, .string ⟨x.u.toArray⟩]
theorem lotsOf_take {xs : List Lot} {i : List UInt8} {k : Nat} {x : Lot} (h : xs[k]? = some x) : lotsOf (xs.take (k + 1)) i = lotsOf (xs.take k) i ++ if (x.inst == i) = true then [x] else [] := by
  obtain ⟨hk, rfl⟩ := List.getElem?_eq_some_iff.1 h
  rw [List.take_succ_eq_append_getElem hk]
  unfold lotsOf
  rw [List.filter_append]
  congr 1
  by_cases e : (xs[k].inst == i) = true
  · rw [if_pos e]; simp [List.filter, e]
  · rw [if_neg e]; simp only [Bool.not_eq_true] at e; simp [List.filter, e]
theorem lotsOf_pre (xs : List Lot) (i : List UInt8) (k : Nat) : lotsOf (xs.take k) i <+: lotsOf xs i := by
  refine ⟨lotsOf (xs.drop k) i, ?_⟩
  unfold lotsOf
  rw [← List.filter_append, List.take_append_drop]
set_option maxRecDepth 100000 in
set_option maxHeartbeats 4000000 in
theorem of1_stops (F : Fence) (n : Nat) (hF : F.fn 157) (hro : F.round = none) (hn : 1 ≤ n) (St : Nat → Prop) (Bs Bi n₀ : Nat) (A : Option Addr) (len cap : Nat) (xs : List Lot) (i : List UInt8) (w : World)
    (hBs : Box w Bs 22 (.slice A len cap)) (hBi : Box w Bi 9 (.string ⟨i.toArray⟩)) (hn₀ : n₀ ≤ w.heap.size) (hs : Lots w n₀ A len xs) (hl : len ≤ 1000000) (hS : ∀ b, b < n₀ → St b) (hSi : St Bi) :
    SeqStopsK F n Tryz.prog 157 #[.pointer (some ⟨Bs, 0, none⟩), .pointer (some ⟨Bi, 0, none⟩)] (fun z : { z : Lot // z ∈ lotsOf xs i } => #[LotV z.1]) (KeepS St) (fun ys => ys.map (·.1) = lotsOf xs i) (fun pre => pre.map (·.1) <+: lotsOf xs i) (lotsOf xs i).length w := fun l J Jx W hW hJ hJx hY h0 => by
  have bs := hBs.here hW
  have HBI := Lib.hid (hBi.here hW)
  have HS := Lib.hid (hs.below (hW.mono hn₀))
  have hsz := hW.size
  have cs := bs.cell
  have HJ := Lib.hid hJ; have HY := Lib.hid hY; have H0 := Lib.hid h0; have HST := Lib.hid hS
  have HSI := Lib.hid hSi
  have HN0 := Lib.hid (show n₀ ≤ W.heap.size by omega)
  have HLE := Lib.hid hs.1
  clear hBs hBi hs hW hJ hJx hY h0 hn₀ hS hSi hsz bs
  refine callsIn_of_wp Tryz.func157 rfl hF ?_ hro
  simp only [Tryz.ntmps157, List.size_toArray, List.length_cons, List.length_nil, Nat.reduceAdd, Nat.reduceSub, Array.replicate_succ, Array.replicate_zero, List.push_toArray, List.append_toArray, List.nil_append, List.cons_append]
  gi_wp2
  gi_loopw [8] (fun j wr => ∃ (k : Nat) (pre : List { z : Lot // z ∈ lotsOf xs i }), k ≤ len ∧ j = .int .i64 k ∧ Hid (pre.map (·.1) = lotsOf (xs.take k) i) ∧ Hid (J pre wr) ∧ Hid (Lots wr n₀ A len xs) ∧ Hid (Box wr Bi 9 (.string ⟨i.toArray⟩)) ∧ Hid (W.heap.size ≤ wr.heap.size)) (fun j _ => len - (intOf j).toNat)
  case atStart => exact ⟨0, [], Nat.zero_le _, rfl, (show _ = _ by simp [lotsOf]), H0, HS, HBI, Nat.le_refl _⟩
  case round =>
    clear HS HBI H0
    obtain ⟨k, pre, hk, rfl, HP, HJS, HS, HBI, HSZ⟩ := hrel
    by_cases hlt : k < len
    · obtain ⟨b, off, x, rfl, hb, hx, d0, d1, d2, d3, d4, d5, d6⟩ := HS.out.lot7 hlt
      have HX := Lib.hid hx
      have HT := Lib.hid (lotsOf_take (i := i) hx)
      have HPR := Lib.hid (lotsOf_pre xs i (k + 1))
      clear hx
      have HG := Lib.hid (World.grownBy_alloc wr (.cells #[.string ⟨x.id.toArray⟩, .string ⟨x.inst.toArray⟩, .int .i64 x.acq, .int .i64 x.opn, .string ⟨x.q.toArray⟩, .string ⟨x.c.toArray⟩, .string ⟨x.u.toArray⟩] 54) none)
      have HJ1 := Lib.hid (HJ.out pre wr _ none HJS.out HG.out (fun r e => by cases e))
      have bi := HBI.out.cell
      have hbl : Bi < wr.heap.size := HBI.out.lt
      have hbn : Bi ≠ wr.heap.size := by omega
      have HBA := Lib.hid (HBI.out.alloc (.cells #[.string ⟨x.id.toArray⟩, .string ⟨x.inst.toArray⟩, .int .i64 x.acq, .int .i64 x.opn, .string ⟨x.q.toArray⟩, .string ⟨x.c.toArray⟩, .string ⟨x.u.toArray⟩] 54))
      have HSA := Lib.hid (HS.out.alloc (by have := HSZ.out; have := HN0.out; omega) (.cells #[.string ⟨x.id.toArray⟩, .string ⟨x.inst.toArray⟩, .int .i64 x.acq, .int .i64 x.opn, .string ⟨x.q.toArray⟩, .string ⟨x.c.toArray⟩, .string ⟨x.u.toArray⟩] 54))
      by_cases hq : (x.inst == i) = true
      · have hmem : x ∈ lotsOf xs i := List.mem_filter.2 ⟨List.mem_of_getElem? HX.out, hq⟩
        have HT2 := Lib.hid (show lotsOf (xs.take (k + 1)) i = lotsOf (xs.take k) i ++ [x] by rw [HT.out, if_pos hq])
        obtain ⟨fn, tmps, assign, body, hy, hR⟩ := HY.out pre ⟨x, hmem⟩ _ HJ1.out (by
          have h1 := HPR.out.length_le
          rw [HT2.out, ← HP.out] at h1
          simp at h1
          omega)
        dsimp only [LotV, S] at hy
        have HR := Lib.hid hR
        have HM := Lib.hid hmem
        clear hR
        gi_wp2
        refine HR.out.mono ?_
        rintro e W3 (⟨rfl, hJ3, hk3⟩ | ⟨rfl, hJx3⟩)
        · have HJ3 := Lib.hid hJ3; have HK3 := Lib.hid hk3
          clear hJ3 hk3
          gi_wp2
          go_roundw
          case rel =>
            exact ⟨k + 1, pre ++ [⟨x, hmem⟩], by omega, by go_num, (show _ = _ by rw [HT2.out, List.map_append, HP.out]; rfl), HJ3, HK3.out.sl HSA.out (fun b hb => ⟨HST.out b hb, by have := HSZ.out; have := HN0.out; simp; omega⟩), HK3.out.box HBA.out HSI.out, (by have := HK3.out.1; have := HSZ.out; simp at *; show _ ≤ _; omega)⟩
          case measure => simp [intOf]; omega
        · have HJ3 := Lib.hid hJx3
          clear hJx3
          gi_wp2
          refine bodyPost_ret (results_none rfl _ _ _) rfl ?_
          exact ⟨⟨_, rfl⟩, .inr ⟨pre ++ [⟨x, hmem⟩], by rw [List.map_append, HP.out]; show _ ++ [x] <+: _; rw [← HT2.out]; exact HPR.out, HJ3.out⟩⟩
      · have hq' : (x.inst == i) = false := by simpa using hq
        have HT2 := Lib.hid (show lotsOf (xs.take (k + 1)) i = lotsOf (xs.take k) i by rw [HT.out, if_neg hq, List.append_nil])
        clear hq
        gi_wp2
        refine ⟨fun _ h => (by cases h), ?_⟩
        gi_wp2
        go_roundw
        case rel => exact ⟨k + 1, pre, by omega, by go_num, (show _ = _ by rw [HT2.out]; exact HP.out), HJ1, HSA, HBA, (by have := HSZ.out; show _ ≤ _; simp; omega)⟩
        case measure => simp [intOf]; omega
    · obtain rfl : k = len := by omega
      gi_wp2
      go_end0
      exact ⟨⟨_, rfl⟩, .inl ⟨pre, by rw [HP.out, List.take_of_length_le (by rw [HLE.out]; exact Nat.le_refl _)], HJS.out⟩⟩
end Go.Proofs.YtpnncoinlopndaaGreatDoor

namespace Go.Proofs.YtpnncoinlopndaaGreatDoor
open Go.RowKit Go.Shelf
theorem getD_of {l : List Int} {i : Nat} {a : Int} (h : l[i]? = some a) : l.getD i 0 = a := by rw [List.getD_eq_getElem?_getD, h]; rfl
theorem cntN_succ (n : List Int) (i : Nat) (hi : i < n.length) : cntN n (i + 1) = cntN n i + if n.getD i 0 = 0 then 0 else 1 := by
  unfold cntN
  rw [List.take_succ_eq_append_getElem hi, List.countP_append, getD_of (List.getElem?_eq_getElem hi)]
  by_cases h : n[i] = 0 <;> simp [h]
theorem cntN_le (n : List Int) (i : Nat) : cntN n i ≤ i := by
  unfold cntN
  exact Nat.le_trans List.countP_le_length (by rw [List.length_take]; omega)
theorem planL_lens (old : List Lot) (m : Mp) : (planL old m).n.length = old.length ∧ (planL old m).m.length = old.length ∧ (planL old m).f.length = old.length ∧ (planL old m).p.length = old.length := by
  unfold planL
  simp [divS_length]
theorem planL_sums {old : List Lot} {m : Mp} (h : ∀ y ∈ old, y.Ok) (hm : m.Ok) (ho : old ≠ []) :
    (planL old m).n.sum = (planL old m).parts ∧ (planL old m).m.sum = (planL old m).moved ∧ (planL old m).f.sum = (planL old m).taken ∧ (planL old m).p.sum = (planL old m).cash ∧ 0 < (old.map fun y => val y.q).sum := by
  obtain ⟨hq, hc⟩ := old_nonneg h
  have hok := planL_ok h hm
  have hqs : 0 < (old.map fun y => val y.q).sum := by
    cases old with
    | nil => exact absurd rfl ho
    | cons a l =>
      have h1 := (h a (by simp)).q0
      have h2 := le_sum_ hq (x := val a.q) (by simp)
      omega
  have hm1 := hok.moved1
  have hm0 := hok.moved0
  have hms : (planL old m).m.sum = (planL old m).moved := divS_sum hc (by show 0 < _ ∨ (planL old m).moved = 0; omega)
  refine ⟨divS_sum hq (.inl hqs), hms, ?_, divS_sum hq (.inl hqs), hqs⟩
  have hmn : ∀ z ∈ (planL old m).m, 0 ≤ z := divS_nonneg hok.moved0 hc
  have ht0 := hok.taken0
  have ht1 := hok.taken1
  exact divS_sum hmn (by show 0 < (planL old m).m.sum ∨ (planL old m).taken = 0; rw [hms]; omega)
theorem keptL_ids (m : Mp) (ms : List Int) (k : Nat) (l : List Lot) : ((keptL m ms k l).map (·.id)).Sublist (l.map (·.id)) := by
  induction l generalizing k with
  | nil => simp [keptL]
  | cons a l ih =>
    unfold keptL
    split
    · split
      · simp only [List.map_cons]
        exact (ih (k + 1)).cons_cons _
      · exact (ih (k + 1)).cons _
    · exact (ih k).cons_cons _
theorem lotsOf_ok {ls : List Lot} (h : LotsOk ls) (i : List UInt8) : ∀ y ∈ lotsOf ls i, y.Ok := fun y hy => h.ok y (List.mem_filter.1 hy).1
theorem lotsOf_len (ls : List Lot) (i : List UInt8) : (lotsOf ls i).length ≤ ls.length := List.length_filter_le _ _
structure MapOk (ls : List Lot) (m : Mp) (A B : List Lot) : Prop where
  ok : LotsOk ls
  mp : m.Ok
  old : lotsOf ls m.inst ≠ []
  free : ∀ z ∈ madeL m (planL (lotsOf ls m.inst) m) (lotsOf ls m.inst), z.id ∉ ls.map (·.id)
  cut : keptL m (planL (lotsOf ls m.inst) m).m 0 ls = A ++ B
  at_ : CutAt m.other A B
  len : (A ++ madeL m (planL (lotsOf ls m.inst) m) (lotsOf ls m.inst) ++ B).length ≤ 1000
end Go.Proofs.YtpnncoinlopndaaGreatDoor

namespace Go.Proofs.YtpnncoinlopndaaGreatDoor
open Go.RowKit Go.Shelf
theorem sum_range (l : List Int) : ((List.range l.length).map (fun i => l.getD i 0)).sum = l.sum := by
  induction l with
  | nil => rfl
  | cons a l ih =>
    rw [List.length_cons, List.range_succ_eq_map, List.map_cons, List.sum_cons, List.map_map, List.sum_cons, ← ih]
    rfl
theorem sum_range_succ (f : Nat → Int) (i : Nat) : ((List.range (i + 1)).map f).sum = ((List.range i).map f).sum + f i := by
  rw [List.range_succ, List.map_append, sum_append_]
  simp
theorem rest_succ (x : Plan) (i : Nat) : x.rest (i + 1) = x.rest i + if x.n.getD i 0 = 0 then x.mv i else 0 := by
  unfold Plan.rest
  rw [List.range_succ, List.filter_append, List.map_append, sum_append_]
  by_cases h : x.n.getD i 0 = 0
  · rw [if_pos h, List.filter_cons, if_pos (by simp only [h]; rfl)]
    simp
  · rw [if_neg h, List.filter_cons, if_neg (by simp only [decide_eq_true_eq]; exact h)]
    simp
section
variable {ls : List Lot} {m : Mp}
end
end Go.Proofs.YtpnncoinlopndaaGreatDoor

