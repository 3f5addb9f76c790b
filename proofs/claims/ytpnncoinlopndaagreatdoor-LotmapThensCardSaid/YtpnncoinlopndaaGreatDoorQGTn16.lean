/- Merged texts: Lw1, Lp5, Lp6, Lp7, Lp8, Lp9, Mq7, Lw2, Lw3, Lc, Qp, Gv, Lsz. -/
import Derived.Test.YtpnncoinlopndaaGreatDoorQGTn14
import Derived.Test.YtpnncoinlopndaaGreatDoorQGTn12
import Derived.Test.YtpnncoinlopndaaGreatDoorMq5qGTn
import Derived.Test.YtpnncoinlopndaaGreatDoorAL2qGTn
namespace Go.Proofs.YtpnncoinlopndaaGreatDoor
open Go.RowKit Go.Shelf
end Go.Proofs.YtpnncoinlopndaaGreatDoor

namespace Go.Proofs.YtpnncoinlopndaaGreatDoor
open Go.RowKit Go.Shelf
def newOf (ls l : List Lot) : List Lot := l.filter (fun x => decide (x.id ∉ ls.map (·.id)))
section
variable {ls : List Lot} {m : Mp} {A B : List Lot}
abbrev oldO (ls : List Lot) (m : Mp) : List Lot := lotsOf ls m.inst
abbrev plO (ls : List Lot) (m : Mp) : Plan := planL (lotsOf ls m.inst) m
abbrev mdO (ls : List Lot) (m : Mp) : List Lot := madeL m (plO ls m) (oldO ls m)
theorem MapOk.ids (h : MapOk ls m A B) : ∀ z ∈ A ++ B, z.id ∈ ls.map (·.id) := by
  intro z hz
  rw [← h.cut] at hz
  exact (keptL_ids m _ 0 ls).subset (List.mem_map.2 ⟨z, hz, rfl⟩)
theorem MapOk.new (h : MapOk ls m A B) : newOf ls (A ++ mdO ls m ++ B) = mdO ls m := by
  unfold newOf
  have hA : A.filter (fun x => decide (x.id ∉ ls.map (·.id))) = [] := by
    rw [List.filter_eq_nil_iff]
    intro z hz
    have := h.ids z (by simp [hz])
    simpa using this
  have hB : B.filter (fun x => decide (x.id ∉ ls.map (·.id))) = [] := by
    rw [List.filter_eq_nil_iff]
    intro z hz
    have := h.ids z (by simp [hz])
    simpa using this
  rw [List.filter_append, List.filter_append, hA, hB, List.nil_append, List.append_nil, List.filter_eq_self]
  intro z hz
  have := h.free z hz
  simpa using this
theorem sum_filterMap_gain (m : Mp) (x : Plan) (old : List Lot) (i : Nat) (hi : i ≤ old.length) :
    ((gainTo m x old i).map (fun g => val g.cost)).sum = ((List.range i).map (fun k => x.f.getD k 0)).sum ∧ ((gainTo m x old i).map (fun g => val g.proceeds)).sum = ((List.range i).map (fun k => x.p.getD k 0)).sum := by
  induction i with
  | zero => exact ⟨rfl, rfl⟩
  | succ i ih =>
    obtain ⟨h1, h2⟩ := ih (by omega)
    have e : gainTo m x old (i + 1) = gainTo m x old i ++ (if x.p.getD i 0 = 0 ∧ x.f.getD i 0 = 0 then [] else [{ cause := m.cause, lot := (old[i]'(by omega)).id, inst := m.other, acq := (old[i]'(by omega)).acq, closed := m.day, q := [], proceeds := txtL (x.p.getD i 0), cost := txtL (x.f.getD i 0), deferred := [], replaced := [] }]) := by
      unfold gainTo
      rw [List.range_succ, List.filterMap_append]
      congr 1
      simp only [List.filterMap_cons, List.filterMap_nil, List.getElem?_eq_getElem (show i < old.length by omega)]
      by_cases h : x.p.getD i 0 = 0 ∧ x.f.getD i 0 = 0
      · simp only [if_pos h]
      · simp only [if_neg h]
    rw [e, List.map_append, List.map_append, sum_append_, sum_append_, h1, h2, sum_range_succ, sum_range_succ]
    by_cases h : x.p.getD i 0 = 0 ∧ x.f.getD i 0 = 0
    · rw [if_pos h, h.1, h.2]; exact ⟨by simp, by simp⟩
    · rw [if_neg h]
      simp only [List.map_cons, List.map_nil, List.sum_cons, List.sum_nil, val_txtL]
      exact ⟨by omega, by omega⟩
theorem MapOk.gains (h : MapOk ls m A B) : ((gainL m (plO ls m) (oldO ls m)).map (fun g => val g.cost)).sum = (plO ls m).taken ∧ ((gainL m (plO ls m) (oldO ls m)).map (fun g => val g.proceeds)).sum = (plO ls m).cash := by
  have hok := planL_ok (lotsOf_ok h.ok m.inst) h.mp
  obtain ⟨s1, s2, s3, s4, s5⟩ := planL_sums (lotsOf_ok h.ok m.inst) h.mp h.old
  obtain ⟨l1, l2, l3, l4⟩ := planL_lens (lotsOf ls m.inst) m
  unfold gainL
  by_cases hp : (plO ls m).part = 0
  · rw [if_pos hp, hok.whole hp, hok.cash1 hp]; exact ⟨rfl, rfl⟩
  · rw [if_neg hp]
    obtain ⟨e1, e2⟩ := sum_filterMap_gain m (plO ls m) (oldO ls m) (oldO ls m).length (Nat.le_refl _)
    have f1 := sum_range (plO ls m).f
    have f2 := sum_range (plO ls m).p
    rw [l3] at f1
    rw [l4] at f2
    rw [e1, e2, f1, f2, s3, s4]
    exact ⟨rfl, rfl⟩
end
end Go.Proofs.YtpnncoinlopndaaGreatDoor

namespace Go.Proofs.YtpnncoinlopndaaGreatDoor
open Go.RowKit Go.Shelf
theorem stpTo_succ (m : Mp) (x : Plan) (old : List Lot) (i : Nat) (hi : i < old.length) : stpTo m x old (i + 1) = stpTo m x old i ++ stp2 m x i old[i] := by
  unfold stpTo
  rw [List.range_succ, List.flatMap_append]
  simp [List.getElem?_eq_getElem hi]
end Go.Proofs.YtpnncoinlopndaaGreatDoor

namespace Go.Proofs.YtpnncoinlopndaaGreatDoor
open Go.RowKit Go.Shelf
end Go.Proofs.YtpnncoinlopndaaGreatDoor

namespace Go.Proofs.YtpnncoinlopndaaGreatDoor
open Go.RowKit Go.Shelf
section
variable {ls : List Lot} {m : Mp}
end
end Go.Proofs.YtpnncoinlopndaaGreatDoor

namespace Go.Proofs.YtpnncoinlopndaaGreatDoor
open Go.RowKit Go.Shelf
def Mp.none : Mp := ⟨[], 0, [], [], Fr.zero, Fr.zero, Fr.zero, false⟩
def thenL (a b : Mp) : Mp × Int :=
  if mpC a ≠ 0 ∨ mpC b ≠ 0 then (Mp.none, 1) else if a.other ≠ b.inst ∨ a.keep = true ∨ b.keep = true then (Mp.none, 9)
  else ({ b with inst := a.inst, ratio := frOf (a.ratio.rat * b.ratio.rat) }, 0)
end Go.Proofs.YtpnncoinlopndaaGreatDoor

namespace Go.Proofs.YtpnncoinlopndaaGreatDoor
open Go.RowKit Go.Shelf
attribute [local go_sem ↓] Go.wp_at_zero Go.wp_at_succ
structure Mp.Bad (m : Mp) : Prop where
  bad : (nameB m.cause && nameB m.inst && nameB m.other) = false
  d1 : -9223372036854775808 ≤ m.day
  d2 : m.day ≤ 9223372036854775807
theorem Mp.Sz.more {L K : Nat} {m : Mp} (h : m.Sz L) (hK : L ≤ K) : m.Sz K := ⟨Nat.le_trans h.cause hK, Nat.le_trans h.inst hK, Nat.le_trans h.other hK, h.ratio.more hK, h.share.more hK, h.price.more hK, h.d1, h.d2⟩
theorem Mp.Bad.c {m : Mp} (h : m.Bad) : mpC m = 23 := by
  unfold mpC
  rw [h.bad]
  rfl
set_option maxRecDepth 20000 in
set_option maxHeartbeats 2000000 in
theorem mCheck_bad (m : Mp) (hm : m.Bad) : Gives 10 #[MpV m] (.int .i64 (mpC m)) := by
  intro w hp
  rw [hm.c]
  have H := Lib.hid ((Kp.start hp).new w.heap.size rfl #[.string ⟨m.cause.toArray⟩, .int .i64 m.day, .string ⟨m.inst.toArray⟩, .string ⟨m.other.toArray⟩, .string ⟨m.ratio.n.toArray⟩, .string ⟨m.ratio.d.toArray⟩, .string ⟨m.share.n.toArray⟩, .string ⟨m.share.d.toArray⟩, .string ⟨m.price.n.toArray⟩, .string ⟨m.price.d.toArray⟩, .bool m.keep] 28)
  have HWD := Lib.hid (weekday_any m.day hm.d1 hm.d2)
  have HN1 := Lib.hid (name_any m.cause); have HN2 := Lib.hid (name_any m.inst); have HN3 := Lib.hid (name_any m.other)
  have hb := hm.bad
  generalize (if dayB m.day = true then (0 : Int) else 13) = cd at *
  generalize wkd m.day = wk at *
  generalize nameB m.cause = n1 at *; generalize nameB m.inst = n2 at *; generalize nameB m.other = n3 at *
  have eA : (mpA m).toArray = #[.string ⟨m.cause.toArray⟩, .int .i64 m.day, .string ⟨m.inst.toArray⟩, .string ⟨m.other.toArray⟩, .string ⟨m.ratio.n.toArray⟩, .string ⟨m.ratio.d.toArray⟩, .string ⟨m.share.n.toArray⟩, .string ⟨m.share.d.toArray⟩, .string ⟨m.price.n.toArray⟩, .string ⟨m.price.d.toArray⟩, .bool m.keep] := rfl
  unfold MpV
  rw [eA]
  clear eA hm hp
  unfold S at *
  have z0 : (w.alloc (.cells #[.string ⟨m.cause.toArray⟩, .int .i64 m.day, .string ⟨m.inst.toArray⟩, .string ⟨m.other.toArray⟩, .string ⟨m.ratio.n.toArray⟩, .string ⟨m.ratio.d.toArray⟩, .string ⟨m.share.n.toArray⟩, .string ⟨m.share.d.toArray⟩, .string ⟨m.price.n.toArray⟩, .string ⟨m.price.d.toArray⟩, .bool m.keep] 28)).cell? ⟨w.heap.size, 1, none⟩ = some (.int .i64 m.day) := H.out.c 0 1 rfl rfl
  have hcase : n1 = false ∨ (n1 = true ∧ n2 = false) ∨ (n1 = true ∧ n2 = true ∧ n3 = false) := by
    cases n1 <;> cases n2 <;> cases n3 <;> simp_all
  clear hb
  rcases hcase with rfl | ⟨rfl, rfl⟩ | ⟨rfl, rfl, rfl⟩
  · go_enter Tryz.func10, Tryz.ntmps10
    go_wp2_with fail
    generalize w.alloc (.cells #[.string ⟨m.cause.toArray⟩, .int .i64 m.day, .string ⟨m.inst.toArray⟩, .string ⟨m.other.toArray⟩, .string ⟨m.ratio.n.toArray⟩, .string ⟨m.ratio.d.toArray⟩, .string ⟨m.share.n.toArray⟩, .string ⟨m.share.d.toArray⟩, .string ⟨m.price.n.toArray⟩, .string ⟨m.price.d.toArray⟩, .bool m.keep] 28) = W at *
    refine (HWD.out _ H.out.pw).mono ?_
    rintro e w1 ⟨rfl, hb1⟩
    have H1 := Lib.hid (H.out.here hb1)
    clear hb1 z0
    have c0 := H1.out.c 0 0 rfl rfl; have c2 := H1.out.c 0 2 rfl rfl; have c3 := H1.out.c 0 3 rfl rfl
    go_wp2_with fail
    refine (HN1.out _ H1.out.pw).mono ?_
    rintro e w2 ⟨rfl, hb2⟩
    have H2 := Lib.hid (H1.out.here hb2)
    clear hb2 c0 c2 c3
    go_wp2_with fail
    first | go_ret | skip
    exact ⟨rfl, H2.out.bl⟩
  · go_enter Tryz.func10, Tryz.ntmps10
    go_wp2_with fail
    generalize w.alloc (.cells #[.string ⟨m.cause.toArray⟩, .int .i64 m.day, .string ⟨m.inst.toArray⟩, .string ⟨m.other.toArray⟩, .string ⟨m.ratio.n.toArray⟩, .string ⟨m.ratio.d.toArray⟩, .string ⟨m.share.n.toArray⟩, .string ⟨m.share.d.toArray⟩, .string ⟨m.price.n.toArray⟩, .string ⟨m.price.d.toArray⟩, .bool m.keep] 28) = W at *
    refine (HWD.out _ H.out.pw).mono ?_
    rintro e w1 ⟨rfl, hb1⟩
    have H1 := Lib.hid (H.out.here hb1)
    clear hb1 z0
    have c0 := H1.out.c 0 0 rfl rfl; have c2 := H1.out.c 0 2 rfl rfl; have c3 := H1.out.c 0 3 rfl rfl
    go_wp2_with fail
    refine (HN1.out _ H1.out.pw).mono ?_
    rintro e w2 ⟨rfl, hb2⟩
    have H2 := Lib.hid (H1.out.here hb2)
    clear hb2 c0 c2 c3
    have c2 := H2.out.c 0 2 rfl rfl; have c3 := H2.out.c 0 3 rfl rfl
    go_wp2_with fail
    refine (HN2.out _ H2.out.pw).mono ?_
    rintro e w3 ⟨rfl, hb3⟩
    have H3 := Lib.hid (H2.out.here hb3)
    clear hb3 c2 c3
    go_wp2_with fail
    first | go_ret | skip
    exact ⟨rfl, H3.out.bl⟩
  · go_enter Tryz.func10, Tryz.ntmps10
    go_wp2_with fail
    generalize w.alloc (.cells #[.string ⟨m.cause.toArray⟩, .int .i64 m.day, .string ⟨m.inst.toArray⟩, .string ⟨m.other.toArray⟩, .string ⟨m.ratio.n.toArray⟩, .string ⟨m.ratio.d.toArray⟩, .string ⟨m.share.n.toArray⟩, .string ⟨m.share.d.toArray⟩, .string ⟨m.price.n.toArray⟩, .string ⟨m.price.d.toArray⟩, .bool m.keep] 28) = W at *
    refine (HWD.out _ H.out.pw).mono ?_
    rintro e w1 ⟨rfl, hb1⟩
    have H1 := Lib.hid (H.out.here hb1)
    clear hb1 z0
    have c0 := H1.out.c 0 0 rfl rfl; have c2 := H1.out.c 0 2 rfl rfl; have c3 := H1.out.c 0 3 rfl rfl
    go_wp2_with fail
    refine (HN1.out _ H1.out.pw).mono ?_
    rintro e w2 ⟨rfl, hb2⟩
    have H2 := Lib.hid (H1.out.here hb2)
    clear hb2 c0 c2 c3
    have c2 := H2.out.c 0 2 rfl rfl; have c3 := H2.out.c 0 3 rfl rfl
    go_wp2_with fail
    refine (HN2.out _ H2.out.pw).mono ?_
    rintro e w3 ⟨rfl, hb3⟩
    have H3 := Lib.hid (H2.out.here hb3)
    clear hb3 c2 c3
    have c3 := H3.out.c 0 3 rfl rfl
    go_wp2_with fail
    refine (HN3.out _ H3.out.pw).mono ?_
    rintro e w4 ⟨rfl, hb4⟩
    have H4 := Lib.hid (H3.out.here hb4)
    clear hb4 c3
    go_wp2_with fail
    first | go_ret | skip
    exact ⟨rfl, H4.out.bl⟩
theorem mCheck_all (m : Mp) (h : m.Sz 5000 ∨ m.Bad) : Gives 10 #[MpV m] (.int .i64 (mpC m)) := h.elim (mCheck_any m) (mCheck_bad m)
end Go.Proofs.YtpnncoinlopndaaGreatDoor

namespace Go.Proofs.YtpnncoinlopndaaGreatDoor
open Go.RowKit Go.Shelf
def lngF (f : Fr) : Bool := decide (10 < f.n.length ∨ 10 < f.d.length)
theorem lngF_no {f : Fr} (h : lngF f = false) : f.Sz 10 := by
  unfold lngF at h
  simp at h
  exact ⟨by omega, by omega⟩
set_option maxRecDepth 20000 in
theorem lwLong1_any (f : Fr) (w : World) (h1 : f.n.length ≤ maxLen) (h2 : f.d.length ≤ maxLen) : Calls Tryz.prog 54 #[FrV f] w fun e w' => e = .returned (.bool (lngF f)) ∧ Below w.heap.size w w' := by
  obtain ⟨x0, x1⟩ := (FrB.new w f).cells
  have hbA : Below w.heap.size w (w.alloc (.cells #[.string ⟨f.n.toArray⟩, .string ⟨f.d.toArray⟩] 26)) := (Below.refl _ _).alloc (Nat.le_refl _) _
  have HBA := Lib.hid hbA; clear hbA h1 h2
  unfold FrV S
  by_cases ha : 10 < f.n.length
  · have HD := Lib.hid (show lngF f = true by simp [lngF, ha])
    rw [HD.out]
    go_enter Tryz.func54, Tryz.ntmps54
    go_wp2_with fail
    go_ret
    exact ⟨rfl, HBA.out⟩
  · have hdec : decide (10 < f.n.length) = false := by simpa using ha
    have HD := Lib.hid (show lngF f = decide (10 < f.d.length) by simp [lngF, ha])
    rw [HD.out]
    go_enter Tryz.func54, Tryz.ntmps54
    go_wp2_with fail
    go_ret
    refine ⟨?_, HBA.out⟩
    refine ret_bool ?_
    rw [Bool.eq_iff_iff]
    simp
    omega
def lenM (m : Mp) : Int := wrap64 (wrap64 ((m.cause.length : Int) + (m.inst.length : Int)) + (m.other.length : Int))
def longM (m : Mp) : Bool := decide (72 < lenM m) || (lngF m.ratio || lngF m.share || lngF m.price)
theorem wrap_in (n : Int) (h : -9223372036854775808 ≤ n ∧ n ≤ 9223372036854775807) : wrap64 n = n := by unfold wrap64; omega
theorem nameB_long {s : List UInt8} (h : 16 < s.length) : nameB s = false := by
  unfold nameB
  rw [decide_eq_false (show ¬ s.length ≤ 16 by omega)]
  simp
structure Mp.Max (m : Mp) : Prop where
  cause : m.cause.length ≤ maxLen
  inst : m.inst.length ≤ maxLen
  other : m.other.length ≤ maxLen
  rn : m.ratio.n.length ≤ maxLen
  rd : m.ratio.d.length ≤ maxLen
  sn : m.share.n.length ≤ maxLen
  sd : m.share.d.length ≤ maxLen
  pn : m.price.n.length ≤ maxLen
  pd : m.price.d.length ≤ maxLen
theorem longM_no {m : Mp} (h : longM m = false) (h1 : -9223372036854775808 ≤ m.day) (h2 : m.day ≤ 9223372036854775807) : m.ratio.Sz 10 ∧ m.share.Sz 10 ∧ m.price.Sz 10 ∧ (m.Sz 72 ∨ m.Bad) := by
  unfold longM at h
  simp only [Bool.or_eq_false_iff, decide_eq_false_iff_not] at h
  obtain ⟨a, ⟨b, c⟩, d⟩ := h
  have hb := lngF_no b; have hc := lngF_no c; have hd := lngF_no d
  refine ⟨hb, hc, hd, ?_⟩
  by_cases hs : m.cause.length + m.inst.length + m.other.length ≤ 9223372036854775807
  · unfold lenM at a
    rw [wrap_in ((m.cause.length : Int) + (m.inst.length : Int)) (by omega), wrap_in _ (by omega)] at a
    exact .inl ⟨by omega, by omega, by omega, hb.more (by omega), hc.more (by omega), hd.more (by omega), h1, h2⟩
  · refine .inr ⟨?_, h1, h2⟩
    by_cases g1 : 16 < m.cause.length
    · rw [nameB_long g1]; rfl
    · by_cases g2 : 16 < m.inst.length
      · rw [nameB_long g2]; simp
      · rw [nameB_long (s := m.other) (by omega)]; simp
set_option maxRecDepth 20000 in
set_option maxHeartbeats 1000000 in
theorem lwLong_any (m : Mp) (w : World) (hm : m.Max) : Calls Tryz.prog 13 #[MpV m] w fun e w' => e = .returned (.bool (longM m)) ∧ Below w.heap.size w w' := by
  have H := Lib.hid ((Below.refl w.heap.size w).alloc (Nat.le_refl _) (.cells #[.string ⟨m.cause.toArray⟩, .int .i64 m.day, .string ⟨m.inst.toArray⟩, .string ⟨m.other.toArray⟩, .string ⟨m.ratio.n.toArray⟩, .string ⟨m.ratio.d.toArray⟩, .string ⟨m.share.n.toArray⟩, .string ⟨m.share.d.toArray⟩, .string ⟨m.price.n.toArray⟩, .string ⟨m.price.d.toArray⟩, .bool m.keep] 28))
  have HWS := Lib.hid (show (w.alloc (.cells #[.string ⟨m.cause.toArray⟩, .int .i64 m.day, .string ⟨m.inst.toArray⟩, .string ⟨m.other.toArray⟩, .string ⟨m.ratio.n.toArray⟩, .string ⟨m.ratio.d.toArray⟩, .string ⟨m.share.n.toArray⟩, .string ⟨m.share.d.toArray⟩, .string ⟨m.price.n.toArray⟩, .string ⟨m.price.d.toArray⟩, .bool m.keep] 28)).heap.size = w.heap.size + 1 by simp)
  have HLM := Lib.hid (show longM m = (decide (72 < lenM m) || (lngF m.ratio || lngF m.share || lngF m.price)) from rfl)
  have HC := Lib.hid (fun (W : World) (A : Option Addr) (c : Nat) (h : Frs W W.heap.size A 3 [m.ratio, m.share, m.price]) => containsF_any 54 lngF A 3 c [m.ratio, m.share, m.price] W (enters_of Tryz.func54 (by kernel_rfl) rfl) (fun W x hx _ => by
    simp only [List.mem_cons, List.mem_nil_iff, or_false] at hx
    rcases hx with rfl | rfl | rfl
    · exact lwLong1_any _ W hm.rn hm.rd
    · exact lwLong1_any _ W hm.sn hm.sd
    · exact lwLong1_any _ W hm.pn hm.pd) h (by omega))
  rw [show [m.ratio, m.share, m.price].any lngF = (lngF m.ratio || lngF m.share || lngF m.price) by simp [Bool.or_assoc]] at HC
  have HSL := Lib.hid (fun W => Sl.lit (enc := F2) (k := 2) W #[.string ⟨m.ratio.n.toArray⟩, .string ⟨m.ratio.d.toArray⟩, .string ⟨m.share.n.toArray⟩, .string ⟨m.share.d.toArray⟩, .string ⟨m.price.n.toArray⟩, .string ⟨m.price.d.toArray⟩] 26 [m.ratio, m.share, m.price] rfl F2_len)
  generalize longM m = lg at *
  generalize (lngF m.ratio || lngF m.share || lngF m.price) = lf at *
  clear hm
  unfold MpV mpA S
  by_cases hb : 72 < lenM m
  · have hb2 : (72 : Int) < wrap64 (wrap64 ((m.cause.length : Int) + (m.inst.length : Int)) + (m.other.length : Int)) := hb
    rw [decide_eq_true hb, Bool.true_or] at HLM
    clear hb
    go_enter Tryz.func13, Tryz.ntmps13
    go_wp2_with fail
    go_ret
    exact ⟨ret_bool HLM.out.symm, H.out⟩
  · have hb2 : ¬ (72 : Int) < wrap64 (wrap64 ((m.cause.length : Int) + (m.inst.length : Int)) + (m.other.length : Int)) := hb
    rw [decide_eq_false hb, Bool.false_or] at HLM
    clear hb
    go_enter Tryz.func13, Tryz.ntmps13
    go_wp2_with fail
    generalize w.alloc (.cells #[.string ⟨m.cause.toArray⟩, .int .i64 m.day, .string ⟨m.inst.toArray⟩, .string ⟨m.other.toArray⟩, .string ⟨m.ratio.n.toArray⟩, .string ⟨m.ratio.d.toArray⟩, .string ⟨m.share.n.toArray⟩, .string ⟨m.share.d.toArray⟩, .string ⟨m.price.n.toArray⟩, .string ⟨m.price.d.toArray⟩, .bool m.keep] 28) = W at *
    have hsl := HSL.out W
    have hsl2 : Frs (W.alloc (.cells #[.string ⟨m.ratio.n.toArray⟩, .string ⟨m.ratio.d.toArray⟩, .string ⟨m.share.n.toArray⟩, .string ⟨m.share.d.toArray⟩, .string ⟨m.price.n.toArray⟩, .string ⟨m.price.d.toArray⟩] 26)) (W.alloc (.cells #[.string ⟨m.ratio.n.toArray⟩, .string ⟨m.ratio.d.toArray⟩, .string ⟨m.share.n.toArray⟩, .string ⟨m.share.d.toArray⟩, .string ⟨m.price.n.toArray⟩, .string ⟨m.price.d.toArray⟩] 26)).heap.size (some ⟨w.heap.size + 1, 0, none⟩) 3 [m.ratio, m.share, m.price] := by rw [← HWS.out]; exact hsl.more (by simp)
    refine (HC.out _ _ _ hsl2).mono ?_
    rintro e w1 ⟨rfl, hb1⟩
    clear hsl hsl2
    go_wp2_with fail
    go_ret
    exact ⟨ret_bool HLM.out.symm, H.out.trans ((((Below.refl _ W).alloc (Nat.le_refl _) _).trans (hb1.mono (by simp))).mono H.out.size)⟩
structure Lot.Max (x : Lot) : Prop where
  id : x.id.length ≤ maxLen
  inst : x.inst.length ≤ maxLen
  q : x.q.length ≤ maxLen
  c : x.c.length ≤ maxLen
  u : x.u.length ≤ maxLen
end Go.Proofs.YtpnncoinlopndaaGreatDoor

namespace Go.Proofs.YtpnncoinlopndaaGreatDoor
open Go.RowKit Go.Shelf
end Go.Proofs.YtpnncoinlopndaaGreatDoor

namespace Go.Proofs.YtpnncoinlopndaaGreatDoor
open Go.RowKit Go.Shelf
end Go.Proofs.YtpnncoinlopndaaGreatDoor

namespace Go.Proofs.YtpnncoinlopndaaGreatDoor
open Go.RowKit Go.Shelf
end Go.Proofs.YtpnncoinlopndaaGreatDoor

namespace Go.Proofs.YtpnncoinlopndaaGreatDoor
open Go.RowKit Go.Shelf
def G10 (g : Gain) : List Value := [S g.cause, S g.lot, S g.inst, .int .i64 g.acq, .int .i64 g.closed, S g.q, S g.proceeds, S g.cost, S g.deferred, S g.replaced]
theorem G10_len (g : Gain) : (G10 g).length = 10 := rfl
theorem G10_cell (g : Gain) : ∀ u ∈ G10 g, u.oneCell' = true := by
  intro u hu
  simp only [G10, List.mem_cons, List.mem_nil_iff, or_false] at hu
  rcases hu with rfl | rfl | rfl | rfl | rfl | rfl | rfl | rfl | rfl | rfl <;> rfl
def S6 (s : Stp) : List Value := [S s.cause, S s.src, S s.dst, S s.q, S s.made, S s.cost]
theorem S6_len (s : Stp) : (S6 s).length = 6 := rfl
theorem S6_cell (s : Stp) : ∀ u ∈ S6 s, u.oneCell' = true := by
  intro u hu
  simp only [S6, List.mem_cons, List.mem_nil_iff, or_false] at hu
  rcases hu with rfl | rfl | rfl | rfl | rfl | rfl <;> rfl
abbrev Gns (w : World) (B : Nat) (A : Option Addr) (n : Nat) (xs : List Gain) : Prop := Sl G10 10 w B A n xs
abbrev Sts (w : World) (B : Nat) (A : Option Addr) (n : Nat) (xs : List Stp) : Prop := Sl S6 6 w B A n xs
theorem elemGains : ElemT Tryz.prog 31 57 10 144 := elemT_of Tryz.underlying31 (by kernel_rfl) (by decide) (by decide)
theorem elemSteps : ElemT Tryz.prog 32 80 6 96 := elemT_of Tryz.underlying32 (by kernel_rfl) (by decide) (by decide)
theorem Sl.gain {w : World} {B : Nat} {A : Option Addr} {n : Nat} {xs : List Gain} {i : Nat} (h : Gns w B A n xs) (hi : i < n) :
    ∃ b off x, A = some ⟨b, off, none⟩ ∧ b < B ∧ xs[i]? = some x ∧ w.cell? ⟨b, off + i * 10, none⟩ = some (.string ⟨x.cause.toArray⟩) ∧ w.cell? ⟨b, off + i * 10 + 1, none⟩ = some (.string ⟨x.lot.toArray⟩) ∧ w.cell? ⟨b, off + i * 10 + 2, none⟩ = some (.string ⟨x.inst.toArray⟩) ∧
      w.cell? ⟨b, off + i * 10 + 3, none⟩ = some (.int .i64 x.acq) ∧ w.cell? ⟨b, off + i * 10 + 4, none⟩ = some (.int .i64 x.closed) ∧ w.cell? ⟨b, off + i * 10 + 5, none⟩ = some (.string ⟨x.q.toArray⟩) ∧ w.cell? ⟨b, off + i * 10 + 6, none⟩ = some (.string ⟨x.proceeds.toArray⟩) ∧
      w.cell? ⟨b, off + i * 10 + 7, none⟩ = some (.string ⟨x.cost.toArray⟩) ∧ w.cell? ⟨b, off + i * 10 + 8, none⟩ = some (.string ⟨x.deferred.toArray⟩) ∧ w.cell? ⟨b, off + i * 10 + 9, none⟩ = some (.string ⟨x.replaced.toArray⟩) := by
  obtain ⟨b, off, x, hA, hb, hx, hc⟩ := h.at_ hi
  exact ⟨b, off, x, hA, hb, hx, hc 0 _ rfl, hc 1 _ rfl, hc 2 _ rfl, hc 3 _ rfl, hc 4 _ rfl, hc 5 _ rfl, hc 6 _ rfl, hc 7 _ rfl, hc 8 _ rfl, hc 9 _ rfl⟩
theorem Sl.step {w : World} {B : Nat} {A : Option Addr} {n : Nat} {xs : List Stp} {i : Nat} (h : Sts w B A n xs) (hi : i < n) :
    ∃ b off x, A = some ⟨b, off, none⟩ ∧ b < B ∧ xs[i]? = some x ∧ w.cell? ⟨b, off + i * 6, none⟩ = some (.string ⟨x.cause.toArray⟩) ∧ w.cell? ⟨b, off + i * 6 + 1, none⟩ = some (.string ⟨x.src.toArray⟩) ∧ w.cell? ⟨b, off + i * 6 + 2, none⟩ = some (.string ⟨x.dst.toArray⟩) ∧
      w.cell? ⟨b, off + i * 6 + 3, none⟩ = some (.string ⟨x.q.toArray⟩) ∧ w.cell? ⟨b, off + i * 6 + 4, none⟩ = some (.string ⟨x.made.toArray⟩) ∧ w.cell? ⟨b, off + i * 6 + 5, none⟩ = some (.string ⟨x.cost.toArray⟩) := by
  obtain ⟨b, off, x, hA, hb, hx, hc⟩ := h.at_ hi
  exact ⟨b, off, x, hA, hb, hx, hc 0 _ rfl, hc 1 _ rfl, hc 2 _ rfl, hc 3 _ rfl, hc 4 _ rfl, hc 5 _ rfl⟩
theorem gainTo_succ (m : Mp) (x : Plan) (old : List Lot) (i : Nat) : gainTo m x old (i + 1) = gainTo m x old i ++ (match old[i]? with
    | some y => if x.p.getD i 0 = 0 ∧ x.f.getD i 0 = 0 then [] else [{ cause := m.cause, lot := y.id, inst := m.other, acq := y.acq, closed := m.day, q := [], proceeds := txtL (x.p.getD i 0), cost := txtL (x.f.getD i 0), deferred := [], replaced := [] }]
    | none => []) := by
  unfold gainTo
  rw [List.range_succ, List.filterMap_append]
  congr 1
  simp only [List.filterMap_cons, List.filterMap_nil]
  cases old[i]? with
  | none => rfl
  | some y =>
    by_cases h : x.p.getD i 0 = 0 ∧ x.f.getD i 0 = 0
    · simp only [if_pos h]
    · simp only [if_neg h]
theorem gainTo_len (m : Mp) (x : Plan) (old : List Lot) (i : Nat) : (gainTo m x old i).length ≤ i := by
  unfold gainTo
  exact Nat.le_trans (List.length_filterMap_le _ _) (by rw [List.length_range]; exact Nat.le_refl _)
theorem stp2_len (m : Mp) (x : Plan) (k : Nat) (y : Lot) : (stp2 m x k y).length ≤ 2 := by
  have h : ∀ s, (stp1 s).length ≤ 1 := fun s => by unfold stp1; split <;> simp
  unfold stp2
  simp only
  split
  · exact Nat.le_trans (h _) (by omega)
  · rw [List.length_append]
    have := h { cause := m.cause, src := y.id, dst := newId m.cause (if x.n.getD k 0 = 0 then 1 else cntN x.n k + 1), q := if m.keep = true then [] else y.q, made := txtL (x.n.getD k 0), cost := txtL (x.mv k) }
    have := h { cause := m.cause, src := y.id, dst := [], q := [], made := [], cost := txtL (x.f.getD k 0) }
    omega
def toR (m : Mp) (x : Plan) (N i : Nat) : List (List UInt8) := (List.range N).map fun j => if x.n.getD j 0 = 0 then (if j < i ∧ x.parts ≠ 0 then newId m.cause 1 else []) else newId m.cause (cntN x.n j + 1)
def toP (N : Nat) (l : List (Nat × Lot)) : List (List UInt8) := l.foldl (fun a z => a.set z.1 z.2.id) (List.replicate N [])
theorem toP_snoc (N : Nat) (l : List (Nat × Lot)) (z : Nat × Lot) : toP N (l ++ [z]) = (toP N l).set z.1 z.2.id := by unfold toP; rw [List.foldl_append]; rfl
theorem toP_len (N : Nat) (l : List (Nat × Lot)) : (toP N l).length = N := by
  unfold toP
  have h : ∀ (l : List (Nat × Lot)) (a : List (List UInt8)), (l.foldl (fun a z => a.set z.1 z.2.id) a).length = a.length := by
    intro l
    induction l with
    | nil => intro a; rfl
    | cons z l ih => intro a; rw [List.foldl_cons, ih, List.length_set]
  rw [h, List.length_replicate]
theorem toP_fresh (m : Mp) (x : Plan) (old : List Lot) (i : Nat) (hi : i ≤ old.length) :
    toP old.length (freshTo m x old i) = (List.range old.length).map fun j => if j < i ∧ x.n.getD j 0 ≠ 0 then newId m.cause (cntN x.n j + 1) else [] := by
  induction i with
  | zero =>
    refine List.ext_getElem (by simp [toP_len]) fun j h1 h2 => ?_
    simp [toP, freshTo]
  | succ i ih =>
    have hlt : i < old.length := by omega
    rw [freshTo_succ, List.getElem?_eq_getElem hlt]
    simp only
    by_cases h0 : x.n.getD i 0 = 0
    · rw [if_pos h0, List.append_nil, ih (by omega)]
      refine List.map_congr_left fun j _ => ?_
      by_cases hj : j < i
      · simp only [hj, show j < i + 1 by omega]
      · by_cases hji : j = i
        · subst hji; rw [if_neg (fun h => by omega), if_neg (fun h => h.2 h0)]
        · simp [hj, show ¬ j < i + 1 by omega]
    · rw [if_neg h0, toP_snoc, ih (by omega)]
      refine List.ext_getElem (by simp) fun j h1 h2 => ?_
      rw [List.getElem_set]
      simp only [List.getElem_map, List.getElem_range]
      by_cases hji : i = j
      · subst hji
        rw [if_pos rfl, if_pos ⟨by omega, h0⟩]
        rfl
      · rw [if_neg hji]
        by_cases hj : j < i
        · simp only [hj, show j < i + 1 by omega]
        · simp only [hj, show ¬ j < i + 1 by omega]
theorem toP_all (m : Mp) (x : Plan) (old : List Lot) : toP old.length (freshL m x old) = toR m x old.length 0 := by
  unfold freshL toR
  rw [toP_fresh m x old _ (Nat.le_refl _)]
  refine List.map_congr_left fun j hj => ?_
  have hj := List.mem_range.1 hj
  by_cases h0 : x.n.getD j 0 = 0 <;> simp [h0, hj]
theorem toR_get (m : Mp) (x : Plan) (N i j : Nat) (hj : j < N) : (toR m x N i)[j]? = some (if x.n.getD j 0 = 0 then (if j < i ∧ x.parts ≠ 0 then newId m.cause 1 else []) else newId m.cause (cntN x.n j + 1)) := by
  unfold toR
  rw [List.getElem?_map, List.getElem?_range hj]
  rfl
theorem toR_next (m : Mp) (x : Plan) (N i : Nat) (h : x.n.getD i 0 ≠ 0 ∨ x.parts = 0) : toR m x N (i + 1) = toR m x N i := by
  unfold toR
  refine List.map_congr_left fun j _ => ?_
  by_cases hji : j = i
  · subst hji
    rcases h with h | h
    · rw [if_neg h, if_neg h]
    · simp [h]
  · by_cases hj : j < i
    · simp only [hj, show j < i + 1 by omega]
    · simp only [hj, show ¬ j < i + 1 by omega]
theorem toR_set (m : Mp) (x : Plan) (N i : Nat) (hi : i < N) (h0 : x.n.getD i 0 = 0) (hp : x.parts ≠ 0) : (toR m x N i).set i (newId m.cause 1) = toR m x N (i + 1) := by
  unfold toR
  refine List.ext_getElem (by simp) fun j h1 h2 => ?_
  rw [List.getElem_set]
  simp only [List.getElem_map, List.getElem_range]
  by_cases hji : i = j
  · subst hji
    rw [if_pos rfl, if_pos h0, if_pos ⟨by omega, hp⟩]
  · rw [if_neg hji]
    by_cases hj : j < i
    · simp only [hj, show j < i + 1 by omega]
    · simp only [hj, show ¬ j < i + 1 by omega]
def strA (l : List (List UInt8)) : Array Value := (l.map fun s => Value.string ⟨s.toArray⟩).toArray
theorem strA_get (l : List (List UInt8)) (j : Nat) (s : List UInt8) (h : l[j]? = some s) : (strA l)[j]? = some (.string ⟨s.toArray⟩) := by unfold strA; simp [h]
theorem strA_set (l : List (List UInt8)) (j : Nat) (s : List UInt8) : (strA l).setIfInBounds j (.string ⟨s.toArray⟩) = strA (l.set j s) := by unfold strA; simp [List.map_set]
theorem strA_zero (N : Nat) : partA [] N 0 = strA (toP N []) := by
  apply Array.ext_getElem?
  intro j
  unfold partA strA toP
  rcases Nat.lt_or_ge j N with h | h
  · simp [h]
  · simp [h]
end Go.Proofs.YtpnncoinlopndaaGreatDoor

namespace Go.Proofs.YtpnncoinlopndaaGreatDoor
open Go.RowKit Go.Shelf
def Lot.I (y : Lot) : Prop := (-9223372036854775808 ≤ y.acq ∧ y.acq ≤ 9223372036854775807) ∧ -9223372036854775808 ≤ y.opn ∧ y.opn ≤ 9223372036854775807
theorem Lot.Sz.more {L K : Nat} {y : Lot} (h : y.Sz L) (hK : L ≤ K) : y.Sz K := ⟨Nat.le_trans h.id hK, Nat.le_trans h.inst hK, Nat.le_trans h.q hK, Nat.le_trans h.c hK, Nat.le_trans h.u hK, h.a1, h.a2, h.o1, h.o2⟩
end Go.Proofs.YtpnncoinlopndaaGreatDoor

