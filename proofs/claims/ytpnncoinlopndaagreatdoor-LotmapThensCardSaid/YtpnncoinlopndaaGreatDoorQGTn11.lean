/- Merged texts: Lp2, Mq4. -/
import Derived.Test.YtpnncoinlopndaaGreatDoorQGTn10
import Derived.Deep.RegionHeld3
namespace Go.Proofs.YtpnncoinlopndaaGreatDoor
open Go.RowKit Go.Shelf
def cntN (n : List Int) (i : Nat) : Nat := (n.take i).countP (fun a => decide (a ≠ 0))
def Plan.mv (x : Plan) (i : Nat) : Int := x.m.getD i 0 - x.f.getD i 0
def Plan.rest (x : Plan) (i : Nat) : Int := (((List.range i).filter fun k => decide (x.n.getD k 0 = 0)).map x.mv).sum
def newId (c : List UInt8) (k : Nat) : List UInt8 := c ++ 47 :: digs k
def newL (m : Mp) (x : Plan) (len i : Nat) (y : Lot) : Lot :=
  { id := newId m.cause (cntN x.n i + 1), inst := m.other, acq := y.acq, opn := y.opn, q := txtL (x.n.getD i 0), c := txtL (x.mv i + if cntN x.n i = 0 then x.rest len else 0), u := txtL (x.n.getD i 0) }
def freshTo (m : Mp) (x : Plan) (old : List Lot) (i : Nat) : List (Nat × Lot) :=
  (List.range i).filterMap fun k => match old[k]? with | some y => if x.n.getD k 0 = 0 then none else some (k, newL m x old.length k y) | none => none
def freshL (m : Mp) (x : Plan) (old : List Lot) : List (Nat × Lot) := freshTo m x old old.length
def madeL (m : Mp) (x : Plan) (old : List Lot) : List Lot := (freshL m x old).map (·.2)
def keptL (m : Mp) (ms : List Int) : Nat → List Lot → List Lot
  | _, [] => []
  | k, y :: l => if y.inst = m.inst then (if m.keep = true then { y with c := txtL (val y.c - ms.getD k 0) } :: keptL m ms (k + 1) l else keptL m ms (k + 1) l) else y :: keptL m ms k l
theorem freshTo_succ (m : Mp) (x : Plan) (old : List Lot) (i : Nat) : freshTo m x old (i + 1) = freshTo m x old i ++ (match old[i]? with | some y => if x.n.getD i 0 = 0 then [] else [(i, newL m x old.length i y)] | none => []) := by
  unfold freshTo
  rw [List.range_succ, List.filterMap_append]
  congr 1
  simp only [List.filterMap_cons, List.filterMap_nil]
  cases old[i]? with
  | none => rfl
  | some y =>
    by_cases h : x.n.getD i 0 = 0
    · simp only [if_pos h]
    · simp only [if_neg h]
theorem keptL_snoc (m : Mp) (ms : List Int) (k : Nat) (l : List Lot) (y : Lot) : keptL m ms k (l ++ [y]) = keptL m ms k l ++ keptL m ms (k + l.countP (fun z => decide (z.inst = m.inst))) [y] := by
  induction l generalizing k with
  | nil => simp [keptL]
  | cons a l ih =>
    simp only [List.cons_append, keptL, List.countP_cons]
    by_cases h : a.inst = m.inst
    · simp only [h, if_true, decide_true]
      rw [ih]
      have e : k + 1 + l.countP (fun z => decide (z.inst = m.inst)) = k + (l.countP (fun z => decide (z.inst = m.inst)) + 1) := by omega
      rw [e]
      by_cases hk : m.keep = true <;> simp [hk, keptL]
    · simp only [h, if_false, decide_false, Bool.false_eq_true]
      rw [ih]
      simp [keptL]
structure Gain where
  cause : List UInt8
  lot : List UInt8
  inst : List UInt8
  acq : Int
  closed : Int
  q : List UInt8
  proceeds : List UInt8
  cost : List UInt8
  deferred : List UInt8
  replaced : List UInt8
deriving DecidableEq
structure Stp where
  cause : List UInt8
  src : List UInt8
  dst : List UInt8
  q : List UInt8
  made : List UInt8
  cost : List UInt8
deriving DecidableEq
def gainTo (m : Mp) (x : Plan) (old : List Lot) (i : Nat) : List Gain :=
  (List.range i).filterMap fun k => match old[k]? with
    | some y => if x.p.getD k 0 = 0 ∧ x.f.getD k 0 = 0 then none else some { cause := m.cause, lot := y.id, inst := m.other, acq := y.acq, closed := m.day, q := [], proceeds := txtL (x.p.getD k 0), cost := txtL (x.f.getD k 0), deferred := [], replaced := [] }
    | none => none
def gainL (m : Mp) (x : Plan) (old : List Lot) : List Gain := if x.part = 0 then [] else gainTo m x old old.length
def stp1 (s : Stp) : List Stp := if s.q = [] ∧ s.made = [] ∧ s.cost = [] then [] else [s]
def stp2 (m : Mp) (x : Plan) (k : Nat) (y : Lot) : List Stp :=
  let gone := if m.keep = true then [] else y.q
  if x.parts = 0 then stp1 { cause := m.cause, src := y.id, dst := [], q := gone, made := [], cost := txtL (x.f.getD k 0) }
  else stp1 { cause := m.cause, src := y.id, dst := newId m.cause (if x.n.getD k 0 = 0 then 1 else cntN x.n k + 1), q := gone, made := txtL (x.n.getD k 0), cost := txtL (x.mv k) } ++
    stp1 { cause := m.cause, src := y.id, dst := [], q := [], made := [], cost := txtL (x.f.getD k 0) }
def stpTo (m : Mp) (x : Plan) (old : List Lot) (i : Nat) : List Stp := (List.range i).flatMap fun k => match old[k]? with | some y => stp2 m x k y | none => []
def stpL (m : Mp) (x : Plan) (old : List Lot) : List Stp := stpTo m x old old.length
structure Res where
  lots : List Lot
  gains : List Gain
  steps : List Stp
def Res.none : Res := ⟨[], [], []⟩
def openAll : List Lot → List Lot → Option (List Lot)
  | l, [] => some l
  | l, z :: zs => if (openL l z).2 ≠ 0 then none else openAll (openL l z).1 zs
def mapL (ls : List Lot) (m : Mp) : Res × Int :=
  if allC ls ≠ 0 ∨ mpC m ≠ 0 then (Res.none, 1)
  else
    let old := lotsOf ls m.inst
    let x := planL old m
    if old = [] then (⟨ls, [], []⟩, 0)
    else if ((madeL m x old).any fun z => decide (z.id ∈ ls.map (·.id))) = true then (Res.none, 5)
    else match openAll (keptL m x.m 0 ls) (madeL m x old) with
      | some l => (⟨l, gainL m x old, stpL m x old⟩, 0)
      | none => (Res.none, 4)
theorem leS_refl (a : List UInt8) : leS a a = true := by unfold leS; simp
theorem putAt_snoc (l : List Lot) (y : Lot) (i : List UInt8) : putAt (l ++ [y]) i = if leS y.inst i = true then l.length + 1 else putAt l i := by
  unfold putAt
  rw [List.reverse_append, List.reverse_singleton, List.singleton_append, List.takeWhile_cons]
  cases h : leS y.inst i with
  | true => simp
  | false => simp
theorem putAt_le (l : List Lot) (i : List UInt8) : putAt l i ≤ l.length := by unfold putAt; omega
structure CutAt (i : List UInt8) (A B : List Lot) : Prop where
  b : ∀ y ∈ B, leS y.inst i = false
  a : A = [] ∨ ∃ A' y, A = A' ++ [y] ∧ leS y.inst i = true
theorem CutAt.at_ {i : List UInt8} {A B : List Lot} (h : CutAt i A B) : putAt (A ++ B) i = A.length := by
  unfold putAt
  have e : ((A ++ B).reverse.takeWhile (fun y => !leS y.inst i)) = B.reverse := by
    rw [List.reverse_append, List.takeWhile_append_of_pos (fun y hy => by simp [h.b y (by simpa using hy)])]
    have e2 : A.reverse.takeWhile (fun y => !leS y.inst i) = [] := by
      rcases h.a with rfl | ⟨A', y, rfl, hy⟩
      · rfl
      · rw [List.reverse_append]
        simp [hy]
    rw [e2, List.append_nil]
  rw [e]
  simp
theorem CutAt.put {A B : List Lot} {x : Lot} (h : CutAt x.inst A B) : putL (A ++ B) x = A ++ x :: B := by
  unfold putL
  rw [h.at_, List.take_left, List.drop_left]
theorem CutAt.next {A B : List Lot} {x : Lot} (h : CutAt x.inst A B) : CutAt x.inst (A ++ [x]) B := ⟨h.b, .inr ⟨A, x, rfl, leS_refl _⟩⟩
theorem LotsOk.put {l : List Lot} {x : Lot} (h : LotsOk l) (hx : x.Ok) (hid : x.id ∉ l.map (·.id)) (hl : l.length < 1000) {A B : List Lot} (e : l = A ++ B) : LotsOk (A ++ x :: B) := by
  subst e
  have hp : (A ++ x :: B).Perm (x :: (A ++ B)) := List.perm_middle
  refine ⟨?_, ?_, ?_⟩
  · rw [hp.length_eq]; simp at hl ⊢; omega
  · intro y hy
    rcases List.mem_cons.1 (hp.mem_iff.1 hy) with rfl | hy
    · exact hx
    · exact h.ok y hy
  · rw [(hp.map (·.id)).nodup_iff, List.map_cons, List.nodup_cons]
    exact ⟨hid, h.ids⟩
theorem openL_ok {l : List Lot} {x : Lot} (h : LotsOk l) (hx : x.Ok) (hid : x.id ∉ l.map (·.id)) : openL l x = if 1000 ≤ l.length then ([], 4) else (putL l x, 0) := by
  unfold openL
  rw [if_neg (by rw [(allC_ok l).2 h]; simp), if_neg (by rw [(lotC_ok x).2 hx]; simp), if_neg hid]
theorem openAll_eq (i : List UInt8) (zs : List Lot) : ∀ (A B : List Lot), CutAt i A B → LotsOk (A ++ B) → (∀ z ∈ zs, z.Ok ∧ z.inst = i ∧ z.id ∉ (A ++ B).map (·.id)) → (zs.map (·.id)).Nodup →
    openAll (A ++ B) zs = if zs = [] ∨ (A ++ B).length + zs.length ≤ 1000 then some (A ++ zs ++ B) else none := by
  induction zs with
  | nil => intro A B _ _ _ _; simp [openAll]
  | cons z zs ih =>
    intro A B hc hl hz hn
    obtain ⟨hok, hi, hid⟩ := hz z (by simp)
    unfold openAll
    rw [openL_ok hl hok hid]
    by_cases hlen : 1000 ≤ (A ++ B).length
    · rw [if_pos hlen, if_pos (by simp), if_neg (by simp; simp at hlen; omega)]
    · rw [if_neg hlen, if_neg (by simp)]
      subst hi
      show openAll (putL (A ++ B) z) zs = _
      rw [hc.put]
      have e1 : A ++ z :: B = (A ++ [z]) ++ B := by simp
      rw [e1]
      rw [List.map_cons, List.nodup_cons] at hn
      have hl' : LotsOk ((A ++ [z]) ++ B) := by
        have := hl.put hok hid (by omega) rfl
        rw [← e1]
        exact this
      rw [ih (A ++ [z]) B hc.next hl' (fun z' hz' => ⟨(hz z' (by simp [hz'])).1, (hz z' (by simp [hz'])).2.1, ?_⟩) hn.2]
      · have e2 : ((A ++ [z]) ++ B).length = (A ++ B).length + 1 := by simp; omega
        rw [e2]
        have e3 : A ++ [z] ++ zs ++ B = A ++ (z :: zs) ++ B := by simp
        rw [e3]
        simp only [reduceCtorEq, false_or, List.length_cons]
        cases zs with
        | nil => rw [if_pos (.inl rfl), if_pos (by simp at hlen ⊢; omega)]
        | cons z2 zs =>
          simp only [reduceCtorEq, false_or, List.length_cons]
          congr 1
          rw [eq_iff_iff]
          omega
      · have h3 := (hz z' (by simp [hz'])).2.2
        rw [← e1]
        have hp : ((A ++ z :: B).map (·.id)).Perm (z.id :: (A ++ B).map (·.id)) := (List.perm_middle (a := z) (l₁ := A) (l₂ := B)).map (·.id)
        rw [hp.mem_iff]
        simp only [List.mem_cons, not_or]
        refine ⟨fun e => hn.1 ?_, h3⟩
        rw [← e]
        exact List.mem_map.2 ⟨z', hz', rfl⟩
end Go.Proofs.YtpnncoinlopndaaGreatDoor

namespace Go.Proofs.YtpnncoinlopndaaGreatDoor
open Go.RowKit Go.Shelf
attribute [local go_sem ↓] Go.wp_at_zero Go.wp_at_succ
def mpA (m : Mp) : List Value := [S m.cause, .int .i64 m.day, S m.inst, S m.other, S m.ratio.n, S m.ratio.d, S m.share.n, S m.share.d, S m.price.n, S m.price.d, .bool m.keep]
structure PlV where
  m : Mp
  oA : Option Addr
  on : Nat
  oc : Nat
  parts : List UInt8
  part : Fr
  n : Value
  q : Value
  f : Value
  p : Value
def plA (v : PlV) : List Value := mpA v.m ++ [.slice v.oA v.on v.oc, S v.parts, S v.part.n, S v.part.d, v.n, v.q, v.f, v.p]
set_option maxRecDepth 20000 in
set_option maxHeartbeats 2000000 in
theorem mFrac1_any {K : Nat} (hK : K ≤ 5000) (hK1 : 1 ≤ K) (f : Fr) (d : Int) (D : Nat) (w : World) (hp : Env w) (hf : f.Sz K) (hd : d.natAbs < 10 ^ K) (hD : w.cell? ⟨D, 0, none⟩ = some (.string ⟨(txtL d).toArray⟩)) :
    Calls Tryz.prog 127 #[FrV f, .pointer (some ⟨D, 0, none⟩)] w fun e w' => e = .returned (S (txtL (flo (f.rat * (d : Rat))))) ∧ Below w.heap.size w w' := by
  have H := Lib.hid ((Kp.start hp).new w.heap.size rfl #[.string ⟨f.n.toArray⟩, .string ⟨f.d.toArray⟩] 26)
  have hlt := World.block_lt_of_cell? w _ hD
  have hne : D ≠ w.heap.size := by have : D < w.heap.size := hlt; omega
  have HD := Lib.hid (show ∀ W', Below w.heap.size w W' → W'.cell? ⟨D, 0, none⟩ = some (.string ⟨(txtL d).toArray⟩) from fun W' hb => (hb.cell (p := ⟨D, 0, none⟩) hlt).trans hD)
  have ld := txtL_length hd
  have hg : (frOf (d : Rat)).Sz (K + 1) := by rw [frOf_int]; exact ⟨ld, by simp⟩
  have HOF := Lib.hid (fun W hp => fOf_any (txtL d) W hp (by omega))
  rw [val_txtL] at HOF
  have HMU := Lib.hid (fun W hp => fMul_any f (frOf (d : Rat)) W hp (hf.more (by omega)) (hg.more (by omega)))
  rw [rat_frOf] at HMU
  have hm := frOf_sz (rb_mul (hf.more (show K ≤ K + 1 by omega)) hg (by omega))
  rw [rat_frOf] at hm
  have HFL := Lib.hid (floor_any (frOf (f.rat * (d : Rat))) (hm.more (by omega)))
  rw [rat_frOf] at HFL
  generalize txtL (flo (f.rat * (d : Rat))) = res at *
  generalize frOf (f.rat * (d : Rat)) = mu at *
  generalize frOf (d : Rat) = g at *
  generalize txtL d = td at *
  clear hp hf hd hD hK hK1 ld hg hm hlt
  unfold FrV at *
  unfold S at *
  have y0 := HD.out _ H.out.bl
  have x0 := H.out.c 0 0 rfl rfl; have x1 := H.out.c 0 1 rfl rfl
  go_enter Tryz.func127, Tryz.ntmps127
  go_upto_region 1 with (fail)
  generalize w.alloc (.cells #[.string ⟨f.n.toArray⟩, .string ⟨f.d.toArray⟩] 26) = W at *
  go_region_held3 (fun w' => w'.cell? ⟨w.heap.size, 0, none⟩ = some (.string ⟨f.n.toArray⟩) ∧ w'.cell? ⟨w.heap.size, 1, none⟩ = some (.string ⟨f.d.toArray⟩) ∧ w'.cell? ⟨D, 0, none⟩ = some (.string ⟨td.toArray⟩))
    (first
      | exact k2
      | exact k3
      | exact k4
      | go_keep)
    (first
      | (go_at_call 60; refine (HOF.out _ H.out.drew.po).mono ?_; rintro e w2 ⟨rfl, hb2⟩; unfold FrV S; have hz : Below W.heap.size W w2 := (Below.refl _ W).drew.trans hb2; have k2 := And.intro ((H.out.here hz).c 0 0 rfl rfl) (And.intro ((H.out.here hz).c 0 1 rfl rfl) (HD.out _ (H.out.here hz).bl)))
      | (go_at_call 55; refine (HMU.out _ (H.out.here hz).po).mono ?_; rintro e w3 ⟨rfl, hb3⟩; unfold FrV S; have hz2 : Below W.heap.size W w3 := hz.trans (hb3.mono hz.size); have k3 := And.intro ((H.out.here hz2).c 0 0 rfl rfl) (And.intro ((H.out.here hz2).c 0 1 rfl rfl) (HD.out _ (H.out.here hz2).bl)))
      | (go_at_call 113; refine (HFL.out _ (H.out.here hz2).pw).mono ?_; rintro e w4 ⟨rfl, hb4⟩; have hz3 : Below W.heap.size W w4 := hz2.trans (hb4.mono hz2.size); have k4 := And.intro ((H.out.here hz3).c 0 0 rfl rfl) (And.intro ((H.out.here hz3).c 0 1 rfl rfl) (HD.out _ (H.out.here hz3).bl))))
  all_goals
    go_wp2_with fail
    first | go_ret | skip
    exact ⟨rfl, (H.out.here hz3).bl⟩
def fracI (q : Rat) (mv : Int) : Int := if q - ((flo q : Int) : Rat) = 0 then 0 else if flo q = 0 then mv else shrL mv (flr q) q.num
theorem flo_part_den (q : Rat) : flo ((q - ((flo q : Int) : Rat)) * ((q.den : Int) : Rat)) = flr q := by
  have e : (q - ((flo q : Int) : Rat)) * ((q.den : Int) : Rat) = ((flr q : Int) : Rat) := by
    rw [sub_flo]
    have hd : (q.den : Int) ≠ 0 := by have := q.den_nz; omega
    rw [← divInt_one (q.den : Int), Rat.divInt_mul_divInt, ← divInt_one (flr q), Rat.divInt_eq_divInt_iff (by omega) (by omega)]
    simp
  rw [e]
  unfold flo; simp
theorem flo_den (q : Rat) : flo (q * ((q.den : Int) : Rat)) = q.num := by
  have e : q * ((q.den : Int) : Rat) = ((q.num : Int) : Rat) := by
    have hd : (q.den : Int) ≠ 0 := by have := q.den_nz; omega
    conv => lhs; lhs; rw [rat_eq_div q]
    rw [← divInt_one (q.den : Int), Rat.divInt_mul_divInt, ← divInt_one q.num, Rat.divInt_eq_divInt_iff (by omega) (by omega)]
    simp
  rw [e]
  unfold flo; simp
set_option maxRecDepth 100000 in
set_option maxHeartbeats 4000000 in
theorem mFracn_any (v : PlV) (q : Rat) (mv : Int) (w : World) {K : Nat} (hK : K ≤ 3000) (hK1 : 1 ≤ K) (hp : Env w) (hq : RB K q) (hmv : mv.natAbs < 10 ^ K) (h0 : 0 ≤ q) (hv1 : v.parts = txtL (flo q)) (hv2 : v.part = frOf (q - ((flo q : Int) : Rat))) :
    Calls Tryz.prog 75 #[.agg (plA v).toArray, S (txtL mv), FrV (frOf q)] w fun e w' => e = .returned (S (txtL (fracI q mv))) ∧ Below w.heap.size w w' := by
  obtain ⟨m, oA, on, oc, parts, part, vn, vq, vf, vp⟩ := v
  simp only at hv1 hv2
  subst hv1; subst hv2
  have H := Lib.hid (((Kp.start hp).new w.heap.size rfl (plA ⟨m, oA, on, oc, txtL (flo q), frOf (q - ((flo q : Int) : Rat)), vn, vq, vf, vp⟩).toArray 60).new (w.heap.size + 1) (by simp) #[.string ⟨(frOf q).n.toArray⟩, .string ⟨(frOf q).d.toArray⟩] 26)
  have hbd := flr_bounds q
  have hnum := flo_flr q
  have hf0 := flo_nonneg h0
  have hn0 : 0 ≤ q.num := Rat.num_nonneg.2 h0
  have hd0 : 0 < (q.den : Int) := by have := q.den_pos; omega
  have hfl1 : flr q ≤ q.num := by
    have : 0 ≤ (q.den : Int) * flo q := Int.mul_nonneg (by omega) hf0
    omega
  have hq1 := hq.1; have hq2 := hq.2
  have hpt : RB K (q - ((flo q : Int) : Rat)) := by rw [sub_flo]; exact RB.divInt (by omega) (by omega) (by omega)
  have sz1 := frOf_sz hpt; have sz2 := frOf_sz hq
  have HSG := Lib.hid (mSign_any (frOf (q - ((flo q : Int) : Rat))) (sz1.more (by omega)))
  rw [rat_frOf] at HSG
  have hsg : (cmpR (q - ((flo q : Int) : Rat)) 0 == 0) = decide (q - ((flo q : Int) : Rat) = 0) := by
    unfold cmpR
    rw [Bool.eq_iff_iff]
    simp only [beq_iff_eq, decide_eq_true_eq]
    constructor
    · intro h
      split at h
      · cases h
      · split at h
        · cases h
        · rename_i h1 h2
          exact Rat.le_antisymm (Rat.not_lt.1 h2) (Rat.not_lt.1 h1)
    · intro h
      rw [h]
      rfl
  have HFI := Lib.hid (show fracI q mv = if q - ((flo q : Int) : Rat) = 0 then 0 else if flo q = 0 then mv else shrL mv (flr q) q.num from rfl)
  have hpow5 : 10 ^ K ≤ 10 ^ (K + 1) := Nat.pow_le_pow_right (by omega) (by omega)
  have HPZ := Lib.hid (partz_any (frOf q) (sz2.more (by omega)))
  rw [rat_frOf] at HPZ
  have HF1 := Lib.hid (fun D W hp hD => mFrac1_any (K := K + 1) (by omega) (by omega) (frOf (q - ((flo q : Int) : Rat))) (q.den : Int) D W hp sz1 (by omega) hD)
  have HF2 := Lib.hid (fun D W hp hD => mFrac1_any (K := K + 1) (by omega) (by omega) (frOf q) (q.den : Int) D W hp sz2 (by omega) hD)
  rw [rat_frOf, flo_part_den] at HF1
  rw [rat_frOf, flo_den] at HF2
  have HSH := Lib.hid (fun h2 => aShare_any (K := K) (by omega) hK1 mv (flr q) q.num hmv (by omega) hq1 hbd.1 hfl1 h2)
  have hte : (txtL (flo q) == []) = decide (flo q = 0) := by
    rw [Bool.eq_iff_iff]
    simp only [beq_iff_eq, decide_eq_true_eq]
    exact txtL_nil
  have hnz : flo q ≠ 0 → q.num ≠ 0 := by
    intro h1 h2
    have h3 : 0 < (q.den : Int) * flo q := Int.mul_pos hd0 (by omega)
    omega
  have e19 : (plA ⟨m, oA, on, oc, txtL (flo q), frOf (q - ((flo q : Int) : Rat)), vn, vq, vf, vp⟩).toArray = #[.string ⟨m.cause.toArray⟩, .int .i64 m.day, .string ⟨m.inst.toArray⟩, .string ⟨m.other.toArray⟩, .string ⟨m.ratio.n.toArray⟩, .string ⟨m.ratio.d.toArray⟩, .string ⟨m.share.n.toArray⟩, .string ⟨m.share.d.toArray⟩, .string ⟨m.price.n.toArray⟩, .string ⟨m.price.d.toArray⟩, .bool m.keep, .slice oA on oc, .string ⟨(txtL (flo q)).toArray⟩, .string ⟨(frOf (q - ((flo q : Int) : Rat))).n.toArray⟩, .string ⟨(frOf (q - ((flo q : Int) : Rat))).d.toArray⟩, vn, vq, vf, vp] := rfl
  rw [e19] at H ⊢
  clear e19 hp hq hmv h0 hbd hnum hf0 hn0 hd0 hfl1 hq1 hq2 hpt sz1 sz2 hpow5 hK hK1
  by_cases hz : q - ((flo q : Int) : Rat) = 0
  · rw [if_pos hz] at HFI
    have hs : (cmpR (q - ((flo q : Int) : Rat)) 0 == 0) = true := by rw [hsg]; simpa using hz
    clear hsg hz hte hnz HPZ HF1 HF2 HSH
    generalize frOf (q - ((flo q : Int) : Rat)) = pt at *
    generalize cmpR (q - ((flo q : Int) : Rat)) 0 = sg at *
    generalize txtL (flo q) = tq at *
    generalize frOf q = fq at *
    generalize txtL mv = tm at *
    generalize fracI q mv = res at *
    have HFI2 := HFI.out
    subst HFI2
    unfold FrV S at *
    have x13 := H.out.c 1 13 rfl rfl; have x14 := H.out.c 1 14 rfl rfl
    go_enter Tryz.func75, Tryz.ntmps75
    go_wp2_with fail
    generalize (w.alloc (.cells #[.string ⟨m.cause.toArray⟩, .int .i64 m.day, .string ⟨m.inst.toArray⟩, .string ⟨m.other.toArray⟩, .string ⟨m.ratio.n.toArray⟩, .string ⟨m.ratio.d.toArray⟩, .string ⟨m.share.n.toArray⟩, .string ⟨m.share.d.toArray⟩, .string ⟨m.price.n.toArray⟩, .string ⟨m.price.d.toArray⟩, .bool m.keep, .slice oA on oc, .string ⟨tq.toArray⟩, .string ⟨pt.n.toArray⟩, .string ⟨pt.d.toArray⟩, vn, vq, vf, vp] 60)).alloc (.cells #[.string ⟨fq.n.toArray⟩, .string ⟨fq.d.toArray⟩] 26) = W at *
    refine (HSG.out _ H.out.pw).mono ?_
    rintro e w1 ⟨rfl, hb⟩
    go_wp2_with fail
    first | go_ret | skip
    exact ⟨rfl, (H.out.here hb).bl⟩
  · rw [if_neg hz] at HFI
    have hs : (cmpR (q - ((flo q : Int) : Rat)) 0 == 0) = false := by rw [hsg]; simpa using hz
    clear hsg hz
    have hie : (txtL (flo q)).isEmpty = (txtL (flo q) == []) := by cases txtL (flo q) <;> rfl
    by_cases hq0 : flo q = 0
    · rw [if_pos hq0] at HFI
      have ht1 : (txtL (flo q) == []) = true := by rw [hte]; simpa using hq0
      have ht2 : (txtL (flo q)).isEmpty = true := by rw [hie]; exact ht1
      clear hq0 hte hie hnz HPZ HF1 HF2 HSH
      generalize frOf (q - ((flo q : Int) : Rat)) = pt at *
      generalize cmpR (q - ((flo q : Int) : Rat)) 0 = sg at *
      generalize txtL (flo q) = tq at *
      generalize frOf q = fq at *
      generalize fracI q mv = res at *
      have HFI2 := HFI.out
      subst HFI2
      generalize txtL res = tm at *
      unfold FrV S at *
      have x13 := H.out.c 1 13 rfl rfl; have x14 := H.out.c 1 14 rfl rfl
      go_enter Tryz.func75, Tryz.ntmps75
      go_wp2_with fail
      generalize (w.alloc (.cells #[.string ⟨m.cause.toArray⟩, .int .i64 m.day, .string ⟨m.inst.toArray⟩, .string ⟨m.other.toArray⟩, .string ⟨m.ratio.n.toArray⟩, .string ⟨m.ratio.d.toArray⟩, .string ⟨m.share.n.toArray⟩, .string ⟨m.share.d.toArray⟩, .string ⟨m.price.n.toArray⟩, .string ⟨m.price.d.toArray⟩, .bool m.keep, .slice oA on oc, .string ⟨tq.toArray⟩, .string ⟨pt.n.toArray⟩, .string ⟨pt.d.toArray⟩, vn, vq, vf, vp] 60)).alloc (.cells #[.string ⟨fq.n.toArray⟩, .string ⟨fq.d.toArray⟩] 26) = W at *
      refine (HSG.out _ H.out.pw).mono ?_
      rintro e w1 ⟨rfl, hb⟩
      replace H := Lib.hid (H.out.here hb)
      clear x13 x14 hb
      have x12 := H.out.c 1 12 rfl rfl
      go_wp2_with fail
      first | go_ret | skip
      exact ⟨rfl, H.out.bl⟩
    · rw [if_neg hq0] at HFI
      have ht1 : (txtL (flo q) == []) = false := by rw [hte]; simpa using hq0
      have ht2 : (txtL (flo q)).isEmpty = false := by rw [hie]; exact ht1
      have HS2 := Lib.hid (HSH.out (hnz hq0))
      rw [← HFI.out] at HS2
      clear hq0 hte hie hnz HSH HFI
      generalize frOf (q - ((flo q : Int) : Rat)) = pt at *
      generalize cmpR (q - ((flo q : Int) : Rat)) 0 = sg at *
      generalize txtL (flo q) = tq at *
      generalize frOf q = fq at *
      generalize txtL (mv - fracI q mv) = tr at *
      generalize txtL (fracI q mv) = res at *
      generalize txtL mv = tm at *
      generalize txtL (flr q) = t1 at *
      generalize txtL q.num = t2 at *
      generalize txtL (q.den : Int) = t3 at *
      unfold FrV S at *
      have x13 := H.out.c 1 13 rfl rfl; have x14 := H.out.c 1 14 rfl rfl
      go_enter Tryz.func75, Tryz.ntmps75
      go_wp2_with fail
      generalize (w.alloc (.cells #[.string ⟨m.cause.toArray⟩, .int .i64 m.day, .string ⟨m.inst.toArray⟩, .string ⟨m.other.toArray⟩, .string ⟨m.ratio.n.toArray⟩, .string ⟨m.ratio.d.toArray⟩, .string ⟨m.share.n.toArray⟩, .string ⟨m.share.d.toArray⟩, .string ⟨m.price.n.toArray⟩, .string ⟨m.price.d.toArray⟩, .bool m.keep, .slice oA on oc, .string ⟨tq.toArray⟩, .string ⟨pt.n.toArray⟩, .string ⟨pt.d.toArray⟩, vn, vq, vf, vp] 60)).alloc (.cells #[.string ⟨fq.n.toArray⟩, .string ⟨fq.d.toArray⟩] 26) = W at *
      refine (HSG.out _ H.out.pw).mono ?_
      rintro e w1 ⟨rfl, hb⟩
      replace H := Lib.hid (H.out.here hb)
      clear x13 x14 hb
      have x12 := H.out.c 1 12 rfl rfl
      have y0 := H.out.c 0 0 rfl rfl; have y1 := H.out.c 0 1 rfl rfl
      go_wp2_with fail
      refine (HPZ.out _ H.out.pw).mono ?_
      rintro e w2 ⟨rfl, hb⟩
      replace H := Lib.hid (H.out.here hb)
      clear x12 y0 y1 hb
      go_upto_region 7 with (fail)
      replace H := Lib.hid (H.out.new w2.heap.size rfl #[.string ⟨t3.toArray⟩] 24)
      obtain ⟨D, hD⟩ : ∃ D, D = w2.heap.size := ⟨_, rfl⟩
      rw [← hD] at H ⊢
      generalize w2.alloc (.cells #[.string ⟨t3.toArray⟩] 24) = W2 at *
      clear hD
      have y0 := H.out.c 1 0 rfl rfl; have y1 := H.out.c 1 1 rfl rfl
      have x13 := H.out.c 2 13 rfl rfl; have x14 := H.out.c 2 14 rfl rfl
      go_region_held3 (fun w' => w'.cell? ⟨w.heap.size + 1, 0, none⟩ = some (.string ⟨fq.n.toArray⟩) ∧ w'.cell? ⟨w.heap.size + 1, 1, none⟩ = some (.string ⟨fq.d.toArray⟩) ∧ w'.cell? ⟨w.heap.size, 13, none⟩ = some (.string ⟨pt.n.toArray⟩) ∧ w'.cell? ⟨w.heap.size, 14, none⟩ = some (.string ⟨pt.d.toArray⟩))
        (first
          | exact k2
          | exact k3
          | exact k4
          | go_keep)
        (first
          | (go_at_call_of 127 (Value.agg #[.string ⟨pt.n.toArray⟩, .string ⟨pt.d.toArray⟩]); refine (HF1.out D _ H.out.drew.pw (H.out.drew.c 0 0 rfl rfl)).mono ?_; rintro e w3 ⟨rfl, hb3⟩; have hz : Below W2.heap.size W2 w3 := (Below.refl _ W2).drew.trans hb3; have k2 := And.intro ((H.out.here hz).c 1 0 rfl rfl) (And.intro ((H.out.here hz).c 1 1 rfl rfl) (And.intro ((H.out.here hz).c 2 13 rfl rfl) ((H.out.here hz).c 2 14 rfl rfl))))
          | (go_at_call_of 127 (Value.agg #[.string ⟨fq.n.toArray⟩, .string ⟨fq.d.toArray⟩]); refine (HF2.out D _ (H.out.here hz).pw ((H.out.here hz).c 0 0 rfl rfl)).mono ?_; rintro e w4 ⟨rfl, hb4⟩; have hz2 : Below W2.heap.size W2 w4 := hz.trans (hb4.mono hz.size); have k3 := And.intro ((H.out.here hz2).c 1 0 rfl rfl) (And.intro ((H.out.here hz2).c 1 1 rfl rfl) (And.intro ((H.out.here hz2).c 2 13 rfl rfl) ((H.out.here hz2).c 2 14 rfl rfl))))
          | (go_at_call 128; refine (HS2.out _ (H.out.here hz2).pw).mono ?_; rintro e w5 ⟨rfl, hb5⟩; have hz3 : Below W2.heap.size W2 w5 := hz2.trans (hb5.mono hz2.size); have k4 := And.intro ((H.out.here hz3).c 1 0 rfl rfl) (And.intro ((H.out.here hz3).c 1 1 rfl rfl) (And.intro ((H.out.here hz3).c 2 13 rfl rfl) ((H.out.here hz3).c 2 14 rfl rfl)))))
      all_goals
        go_wp2_with fail
        first | go_ret | skip
        exact ⟨rfl, (H.out.here hz3).bl⟩
end Go.Proofs.YtpnncoinlopndaaGreatDoor

