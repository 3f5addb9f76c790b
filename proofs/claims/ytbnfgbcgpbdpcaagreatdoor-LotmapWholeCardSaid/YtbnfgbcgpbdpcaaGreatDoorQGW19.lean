/- Merged texts: Lw1, Lp5, Lp6, Lp7, Lp8. -/
import Derived.Test.YtbnfgbcgpbdpcaaGreatDoorQGW17
import Derived.Test.YtbnfgbcgpbdpcaaGreatDoorQGW14
import Derived.Test.YtbnfgbcgpbdpcaaGreatDoorMq5qGW
import Derived.Test.YtbnfgbcgpbdpcaaGreatDoorQGW15
/- Contracts of the statements' quantity, cost, sum, long, great. -/
namespace Go.Proofs.YtbnfgbcgpbdpcaaGreatDoor
open Go.RowKit Go.Shelf

theorem lwQ_any (x : Lot) (w : World) : Calls Tryz.prog 19 #[LotV x] w fun e w' => e = .returned (S x.q) ∧ Below w.heap.size w w' := by
  unfold LotV S
  go_enter Tryz.func19, Tryz.ntmps19
  go_wp2
  go_ret
  exact ⟨rfl, (Below.refl _ _).alloc (Nat.le_refl _) _⟩
def selS (sel : Lot → List UInt8) (xs : List Lot) : Int := (xs.map (fun x => val (sel x))).sum
theorem selS_take {sel : Lot → List UInt8} {xs : List Lot} {k : Nat} {x : Lot} (h : xs[k]? = some x) : selS sel (xs.take (k + 1)) = selS sel (xs.take k) + val (sel x) := by
  obtain ⟨hk, rfl⟩ := List.getElem?_eq_some_iff.1 h
  unfold selS
  rw [List.take_succ_eq_append_getElem hk, List.map_append, sum_append_]
  simp
theorem selS_len {sel : Lot → List UInt8} {xs : List Lot} {L : Nat} (h : ∀ x ∈ xs, (sel x).length ≤ L) (hn : xs.length ≤ 9999) (k : Nat) : (txtL (selS sel (xs.take k))).length ≤ L + 5 := by
  have e : selS sel (xs.take k) = sumV ((xs.map sel).take k) := by unfold selS sumV; rw [← List.map_take, List.map_map]; rfl
  rw [e]
  exact sumV_take_len (fun y hy => by obtain ⟨x, hx, rfl⟩ := List.mem_map.1 hy; exact h x hx) (by simpa using hn) k
set_option maxRecDepth 20000 in
set_option maxHeartbeats 1000000 in
theorem lwSum_any (g : Nat) (sel : Lot → List UInt8) (A : Option Addr) (n c : Nat) (xs : List Lot) (w : World) (hp : Env w) (eg : ∀ args w, (callFunc g args).run Tryz.prog w = .ok (.enter g args) w)
    (hg : ∀ (x : Lot) (W : World), Calls Tryz.prog g #[LotV x] W fun e w' => e = .returned (S (sel x)) ∧ Below W.heap.size W w') (hs : Lots w w.heap.size A n xs) (hl : ∀ x ∈ xs, (sel x).length ≤ 50000) (hn : n ≤ 9999) :
    Calls Tryz.prog 18 #[.slice A n c, .func (.func g) #[] #[]] w (StrPost (txtL (selS sel xs)) w) := by
  have HPO := Lib.hid (show StrPost (txtL (selS sel xs)) w = fun e w' => e = .returned (S (txtL (selS sel xs))) ∧ Below w.heap.size w w' from rfl)
  generalize StrPost (txtL (selS sel xs)) w = post at *
  have HS := Lib.hid hs; have HL := Lib.hid hl
  have H0 := Lib.hid (Kp.start hp)
  have hnw := hs.1
  have HNW := Lib.hid hnw
  have HOF := Lib.hid (fun W hp => of_any 0 (by omega) (by omega) W hp)
  rw [show ofL 0 = [] from ofL_nat 0] at HOF
  have HG := Lib.hid hg
  clear hs hl hp hnw hg
  unfold S at *
  go_enter Tryz.func18, Tryz.ntmps18
  go_wp2_with fail
  refine (HOF.out w H0.out.po).mono ?_
  rintro e w0 ⟨rfl, hb0⟩
  have H1 := Lib.hid (H0.out.here hb0)
  clear H0 hb0 HOF
  go_wp2_with fail
  go_loopw [5, 7, 11] (fun s _ i wr => ∃ k : Nat, k ≤ n ∧ i = .int .i64 k ∧ s = .string ⟨(txtL (selS sel (xs.take k))).toArray⟩ ∧ Hid (Kp w [] wr)) (fun _ _ i _ => n - (intOf i).toNat)
  case atStart => exact ⟨0, Nat.zero_le _, rfl, rfl, H1⟩
  case round =>
    clear H1
    obtain ⟨k, hk, rfl, rfl, H⟩ := hrel
    by_cases hlt : k < n
    · obtain ⟨b, off, x, rfl, hb, hx, d0, d1, d2, d3, d4, d5, d6⟩ := (HS.out.here H.out.bl).lot7 hlt
      have HA := Lib.hid (fun W hp => Add_any (txtL (selS sel (xs.take k))) (sel x) W hp (by have := selS_len HL.out (by rw [← HNW.out]; omega) k; omega) (by have := HL.out x (List.mem_of_getElem? hx); omega))
      rw [val_txtL, ← selS_take hx] at HA
      clear hx
      have HGX := Lib.hid (HG.out x)
      unfold LotV at HGX
      unfold S at HA HGX
      have H2 := Lib.hid (H.out.alloc (.cells #[.string ⟨x.id.toArray⟩, .string ⟨x.inst.toArray⟩, .int .i64 x.acq, .int .i64 x.opn, .string ⟨x.q.toArray⟩, .string ⟨x.c.toArray⟩, .string ⟨x.u.toArray⟩] 39))
      go_wp2_with (go_at_fn g; refine (HGX.out _).mono ?_; rintro e w1 ⟨rfl, hb1⟩)
      have H3 := Lib.hid (H2.out.here hb1)
      refine (HA.out _ H3.out.po).mono ?_
      rintro e w2 ⟨rfl, hb2⟩
      try unfold S
      go_wp2_with fail
      go_roundw
      case rel => exact ⟨k + 1, by omega, by go_num, rfl, H3.out.here hb2⟩
      case measure => simp [intOf]; omega
    · have HE := Lib.hid (show txtL (selS sel (xs.take k)) = txtL (selS sel xs) by rw [List.take_of_length_le (by have := HNW.out; omega)])
      rw [HE.out]
      go_wp2_with fail
      first | go_ret | skip
      rw [HPO.out]
      exact ⟨rfl, H.out.bl⟩
theorem lwSumQ_any (A : Option Addr) (n c : Nat) (xs : List Lot) (w : World) (hp : Env w) (hs : Lots w w.heap.size A n xs) (hl : ∀ x ∈ xs, x.q.length ≤ 50000) (hn : n ≤ 9999) :
    Calls Tryz.prog 18 #[.slice A n c, .func (.func 19) #[] #[]] w (StrPost (txtL (selS (·.q) xs)) w) :=
  lwSum_any 19 (·.q) A n c xs w hp (enters_of Tryz.func19 (by kernel_rfl) rfl) (fun x W => lwQ_any x W) hs hl hn
end Go.Proofs.YtbnfgbcgpbdpcaaGreatDoor
/- What a mapping makes of lots, plain: the laws' own words. -/
namespace Go.Proofs.YtbnfgbcgpbdpcaaGreatDoor
open Go.RowKit Go.Shelf

/-- The lots of a result that were not there. -/
def newOf (ls l : List Lot) : List Lot := l.filter (fun x => decide (x.id ∉ ls.map (·.id)))
section
variable {ls : List Lot} {m : Mp} {A B : List Lot}
abbrev oldO (ls : List Lot) (m : Mp) : List Lot := lotsOf ls m.inst
abbrev plO (ls : List Lot) (m : Mp) : Plan := planL (lotsOf ls m.inst) m
abbrev mdO (ls : List Lot) (m : Mp) : List Lot := madeL m (plO ls m) (oldO ls m)
theorem MapOk.ids (h : MapOk ls m A B) : ∀ z ∈ A ++ B, z.id ∈ ls.map (·.id) := by
  intro z hz
  rw [← h.cut] at hz
  exact (keptL_ids m _ 0 ls).subset (List.mem_map.2 ⟨z, hz, rfl⟩)
theorem MapOk.new (h : MapOk ls m A B) : newOf ls (A ++ mdO ls m ++ B) = mdO ls m := by
  unfold newOf
  have hA : A.filter (fun x => decide (x.id ∉ ls.map (·.id))) = [] := by
    rw [List.filter_eq_nil_iff]
    intro z hz
    have := h.ids z (by simp [hz])
    simpa using this
  have hB : B.filter (fun x => decide (x.id ∉ ls.map (·.id))) = [] := by
    rw [List.filter_eq_nil_iff]
    intro z hz
    have := h.ids z (by simp [hz])
    simpa using this
  rw [List.filter_append, List.filter_append, hA, hB, List.nil_append, List.append_nil, List.filter_eq_self]
  intro z hz
  have := h.free z hz
  simpa using this
theorem new_self (ls : List Lot) : newOf ls ls = [] := by
  unfold newOf
  rw [List.filter_eq_nil_iff]
  intro z hz
  have : z.id ∈ ls.map (·.id) := List.mem_map.2 ⟨z, hz, rfl⟩
  simpa using this
/-- The result is valid. -/
theorem MapOk.ok' (h : MapOk ls m A B) (hlen : (A ++ mdO ls m ++ B).length ≤ 1000) : LotsOk (A ++ mdO ls m ++ B) := by
  have hk := kept_lotsOk h.ok h.mp h.old
  rw [h.cut] at hk
  have hp : (A ++ mdO ls m ++ B).Perm (mdO ls m ++ (A ++ B)) := by
    rw [← List.append_assoc]
    exact (List.perm_append_comm).append_right B
  refine ⟨hlen, ?_, ?_⟩
  · intro z hz
    rcases List.mem_append.1 (hp.mem_iff.1 hz) with hz | hz
    · obtain ⟨i, y, hy, hn, rfl⟩ := mem_madeL hz
      exact newL_ok (lotsOf_ok h.ok _) h.mp h.old (Nat.le_trans (lotsOf_len _ _) h.ok.len) hy hn
    · exact hk.ok z hz
  · rw [(hp.map (·.id)).nodup_iff, List.map_append, List.nodup_append]
    refine ⟨madeL_nodup m _ _ (planL_lens _ m).1, hk.ids, ?_⟩
    intro a ha b hb e
    obtain ⟨z, hz, rfl⟩ := List.mem_map.1 ha
    obtain ⟨y, hy, rfl⟩ := List.mem_map.1 hb
    exact h.free z hz (by rw [e]; exact h.ids y hy)
theorem sum_filterMap_gain (m : Mp) (x : Plan) (old : List Lot) (i : Nat) (hi : i ≤ old.length) :
    ((gainTo m x old i).map (fun g => val g.cost)).sum = ((List.range i).map (fun k => x.f.getD k 0)).sum ∧ ((gainTo m x old i).map (fun g => val g.proceeds)).sum = ((List.range i).map (fun k => x.p.getD k 0)).sum := by
  induction i with
  | zero => exact ⟨rfl, rfl⟩
  | succ i ih =>
    obtain ⟨h1, h2⟩ := ih (by omega)
    have e : gainTo m x old (i + 1) = gainTo m x old i ++ (if x.p.getD i 0 = 0 ∧ x.f.getD i 0 = 0 then [] else [{ cause := m.cause, lot := (old[i]'(by omega)).id, inst := m.other, acq := (old[i]'(by omega)).acq, closed := m.day, q := [], proceeds := txtL (x.p.getD i 0), cost := txtL (x.f.getD i 0), deferred := [], replaced := [] }]) := by
      unfold gainTo
      rw [List.range_succ, List.filterMap_append]
      congr 1
      simp only [List.filterMap_cons, List.filterMap_nil, List.getElem?_eq_getElem (show i < old.length by omega)]
      by_cases h : x.p.getD i 0 = 0 ∧ x.f.getD i 0 = 0
      · simp only [if_pos h]
      · simp only [if_neg h]
    rw [e, List.map_append, List.map_append, sum_append_, sum_append_, h1, h2, sum_range_succ, sum_range_succ]
    by_cases h : x.p.getD i 0 = 0 ∧ x.f.getD i 0 = 0
    · rw [if_pos h, h.1, h.2]; exact ⟨by simp, by simp⟩
    · rw [if_neg h]
      simp only [List.map_cons, List.map_nil, List.sum_cons, List.sum_nil, val_txtL]
      exact ⟨by omega, by omega⟩
theorem MapOk.gains (h : MapOk ls m A B) : ((gainL m (plO ls m) (oldO ls m)).map (fun g => val g.cost)).sum = (plO ls m).taken ∧ ((gainL m (plO ls m) (oldO ls m)).map (fun g => val g.proceeds)).sum = (plO ls m).cash := by
  have hok := planL_ok (lotsOf_ok h.ok m.inst) h.mp
  obtain ⟨s1, s2, s3, s4, s5⟩ := planL_sums (lotsOf_ok h.ok m.inst) h.mp h.old
  obtain ⟨l1, l2, l3, l4⟩ := planL_lens (lotsOf ls m.inst) m
  unfold gainL
  by_cases hp : (plO ls m).part = 0
  · rw [if_pos hp, hok.whole hp, hok.cash1 hp]; exact ⟨rfl, rfl⟩
  · rw [if_neg hp]
    obtain ⟨e1, e2⟩ := sum_filterMap_gain m (plO ls m) (oldO ls m) (oldO ls m).length (Nat.le_refl _)
    have f1 := sum_range (plO ls m).f
    have f2 := sum_range (plO ls m).p
    rw [l3] at f1
    rw [l4] at f2
    rw [e1, e2, f1, f2, s3, s4]
    exact ⟨rfl, rfl⟩
theorem kept_c (m : Mp) (ms : List Int) (k : Nat) (l : List Lot) :
    ((keptL m ms k l).map (fun z => val z.c)).sum = (l.map (fun z => val z.c)).sum - if m.keep = true then ((List.range (lotsOf l m.inst).length).map (fun j => ms.getD (k + j) 0)).sum else ((lotsOf l m.inst).map (fun z => val z.c)).sum := by
  induction l generalizing k with
  | nil => simp [keptL, lotsOf]
  | cons a l ih =>
    unfold keptL
    by_cases ha : a.inst = m.inst
    · have e : lotsOf (a :: l) m.inst = a :: lotsOf l m.inst := by unfold lotsOf; rw [List.filter_cons, ha]; simp
      rw [if_pos ha, e]
      by_cases hk : m.keep = true
      · rw [if_pos hk, if_pos hk, List.map_cons, List.sum_cons, ih, if_pos hk, List.map_cons, List.sum_cons, List.length_cons, List.range_succ_eq_map, List.map_cons, List.sum_cons, List.map_map]
        show val (txtL _) + _ = _
        rw [val_txtL]
        have e2 : ((List.range (lotsOf l m.inst).length).map (fun j => ms.getD (k + 1 + j) 0)) = ((List.range (lotsOf l m.inst).length).map ((fun j => ms.getD (k + j) 0) ∘ Nat.succ)) := by
          refine List.map_congr_left fun j _ => ?_
          show ms.getD _ 0 = ms.getD _ 0
          rw [show k + 1 + j = k + Nat.succ j by omega]
        rw [e2]
        simp only [Nat.add_zero]
        omega
      · rw [if_neg hk, if_neg hk, ih, if_neg hk]
        simp only [List.map_cons, List.sum_cons]
        omega
    · have e : lotsOf (a :: l) m.inst = lotsOf l m.inst := by unfold lotsOf; rw [List.filter_cons]; simp [ha]
      rw [if_neg ha, e]
      simp only [List.map_cons, List.sum_cons, ih]
      omega
theorem MapOk.costs (h : MapOk ls m A B) : ((A ++ mdO ls m ++ B).map (fun z => val z.c)).sum + (plO ls m).taken = (ls.map (fun z => val z.c)).sum := by
  have hok := planL_ok (lotsOf_ok h.ok m.inst) h.mp
  obtain ⟨s1, s2, s3, s4, s5⟩ := planL_sums (lotsOf_ok h.ok m.inst) h.mp h.old
  obtain ⟨l1, l2, l3, l4⟩ := planL_lens (lotsOf ls m.inst) m
  have e1 : ((mdO ls m).map (fun z => val z.c)).sum = (plO ls m).moved - (plO ls m).taken := madeL_c (lotsOf_ok h.ok m.inst) h.mp h.old
  have e2 := kept_c m (plO ls m).m 0 ls
  rw [h.cut] at e2
  have e3 := sum_range (plO ls m).m
  rw [l2] at e3
  have e4 : (if m.keep = true then ((List.range (lotsOf ls m.inst).length).map (fun j => (plO ls m).m.getD (0 + j) 0)).sum else ((lotsOf ls m.inst).map (fun z => val z.c)).sum) = (plO ls m).moved := by
    split
    · simp only [Nat.zero_add]
      rw [e3, s2]
    · rename_i hk
      exact (hok.all (by simpa using hk)).symm
  rw [e4] at e2
  simp only [List.map_append, sum_append_] at e2 ⊢
  omega
theorem kept_others (m : Mp) (ms : List Int) (k : Nat) (l : List Lot) : (keptL m ms k l).filter (fun z => decide (z.inst ≠ m.inst)) = l.filter (fun z => decide (z.inst ≠ m.inst)) := by
  induction l generalizing k with
  | nil => rfl
  | cons a l ih =>
    unfold keptL
    by_cases ha : a.inst = m.inst
    · rw [if_pos ha]
      split
      · rw [List.filter_cons, if_neg (by simp [ha]), List.filter_cons, if_neg (by simp [ha]), ih]
      · rw [List.filter_cons, if_neg (by simp [ha]), ih]
    · rw [if_neg ha, List.filter_cons, if_pos (by simp [ha]), List.filter_cons, if_pos (by simp [ha]), ih]
/-- Lots of other instruments remain. -/
theorem MapOk.others (h : MapOk ls m A B) : (A ++ mdO ls m ++ B).filter (fun z => decide (z.inst ≠ m.inst ∧ z ∉ mdO ls m)) = ls.filter (fun z => decide (z.inst ≠ m.inst ∧ z ∉ mdO ls m)) := by
  have e := kept_others m (plO ls m).m 0 ls
  rw [h.cut] at e
  have hno : ∀ l : List Lot, (∀ z ∈ l, z.id ∈ ls.map (·.id)) → l.filter (fun z => decide (z.inst ≠ m.inst ∧ z ∉ mdO ls m)) = l.filter (fun z => decide (z.inst ≠ m.inst)) := by
    intro l hl
    refine List.filter_congr fun z hz => ?_
    have hn : z ∉ mdO ls m := fun hm => h.free z hm (hl z hz)
    simp [hn]
  have hm : (mdO ls m).filter (fun z => decide (z.inst ≠ m.inst ∧ z ∉ mdO ls m)) = [] := by
    rw [List.filter_eq_nil_iff]
    intro z hz
    simp [hz]
  rw [hno ls (fun z hz => List.mem_map.2 ⟨z, hz, rfl⟩), ← e, List.filter_append, List.filter_append, hm, List.append_nil, ← hno (A ++ B) h.ids, List.filter_append]
end
end Go.Proofs.YtbnfgbcgpbdpcaaGreatDoor
/- What a mapping makes of lots, plain: steps; whole numbers; fair parts. -/
namespace Go.Proofs.YtbnfgbcgpbdpcaaGreatDoor
open Go.RowKit Go.Shelf

/-- All of it is divided as it stands. -/
theorem posL_exact {t : Int} {ws : List Int} (hS : 0 < ws.sum) (h : ∀ w ∈ ws, (t * w).fmod ws.sum = 0) : posL t ws = ws.map (fun w => (t * w).fdiv ws.sum) := by
  have hr : (restL t ws).sum = 0 := by
    have hz : ∀ r ∈ restL t ws, r = 0 := by
      intro r hr
      obtain ⟨w, hw, rfl⟩ := List.mem_map.1 hr
      exact h w hw
    generalize restL t ws = l at *
    induction l with
    | nil => rfl
    | cons a l ih =>
      rw [List.sum_cons, hz a (by simp), ih (fun r hr => hz r (by simp [hr]))]
      rfl
  rw [sum_rest] at hr
  have hm : missL t ws = 0 := by
    rcases Int.mul_eq_zero.1 hr with h0 | h0
    · omega
    · exact h0
  have hu : upL t ws = [] := by unfold upL; rw [hm]; rfl
  unfold posL
  rw [hu]
  unfold baseL
  refine List.ext_getElem? fun i => ?_
  simp
  rfl
theorem divS_self {ws : List Int} (h : ∀ w ∈ ws, 0 ≤ w) : divS ws.sum ws = ws := by
  unfold divS
  split
  · rename_i h0
    have hz := sum_zero_all h h0
    refine (List.map_congr_left fun w hw => (hz w hw).symm).trans ?_
    exact List.map_id' _
  · rename_i h0
    have hs := sum_nonneg_ h
    have hS : 0 < ws.sum := by omega
    rw [posL_exact hS (fun w _ => by rw [Int.mul_fmod_right])]
    refine (List.map_congr_left fun w _ => ?_).trans (List.map_id' _)
    exact Int.mul_fdiv_cancel_left _ (by omega)
theorem divS_zero (ws : List Int) (h : ∀ w ∈ ws, 0 ≤ w) : divS 0 ws = ws.map (fun _ => 0) := by
  unfold divS
  split
  · rfl
  · rename_i h0
    have hs := sum_nonneg_ h
    rw [posL_exact (by omega) (fun w _ => by simp)]
    refine List.map_congr_left fun w _ => by simp
theorem getD_map_zero (ws : List Int) (i : Nat) : (ws.map (fun _ => (0 : Int))).getD i 0 = 0 := by
  rw [List.getD_eq_getElem?_getD, List.getElem?_map]
  cases ws[i]? <;> rfl
/-- Sums over the steps of a lot. -/
def stpSum (l : List Stp) (p : Stp → Bool) (g : Stp → List UInt8) : Int := ((l.filter p).map (fun s => val (g s))).sum
theorem stpSum_append (l k : List Stp) (p : Stp → Bool) (g : Stp → List UInt8) : stpSum (l ++ k) p g = stpSum l p g + stpSum k p g := by
  unfold stpSum
  rw [List.filter_append, List.map_append, sum_append_]
theorem stpSum_nil (p : Stp → Bool) (g : Stp → List UInt8) : stpSum [] p g = 0 := rfl
theorem stp1_sum (s : Stp) (p : Stp → Bool) (g : Stp → List UInt8) (hg : s.q = [] ∧ s.made = [] ∧ s.cost = [] → val (g s) = 0) : stpSum (stp1 s) p g = if p s = true then val (g s) else 0 := by
  unfold stp1 stpSum
  split
  · rename_i h
    have := hg h
    simp only [List.filter_nil, List.map_nil, List.sum_nil]
    split
    · exact this.symm
    · rfl
  · by_cases hp : p s = true
    · simp [hp]
    · simp [hp]
theorem stpTo_succ (m : Mp) (x : Plan) (old : List Lot) (i : Nat) (hi : i < old.length) : stpTo m x old (i + 1) = stpTo m x old i ++ stp2 m x i old[i] := by
  unfold stpTo
  rw [List.range_succ, List.flatMap_append]
  simp [List.getElem?_eq_getElem hi]
theorem stp1_mem {s t : Stp} (h : s ∈ stp1 t) : s = t := by
  unfold stp1 at h
  by_cases hc : t.q = [] ∧ t.made = [] ∧ t.cost = []
  · rw [if_pos hc] at h; cases h
  · rw [if_neg hc] at h; exact List.mem_singleton.1 h
theorem stp2_src {m : Mp} {x : Plan} {k : Nat} {y : Lot} {s : Stp} (h : s ∈ stp2 m x k y) : s.src = y.id ∧ s.cause = m.cause := by
  unfold stp2 at h
  simp only at h
  split at h
  · rw [stp1_mem h]; exact ⟨rfl, rfl⟩
  · rcases List.mem_append.1 h with h | h
    · rw [stp1_mem h]; exact ⟨rfl, rfl⟩
    · rw [stp1_mem h]; exact ⟨rfl, rfl⟩
theorem stpTo_cause {m : Mp} {x : Plan} {old : List Lot} {i : Nat} {s : Stp} (h : s ∈ stpTo m x old i) : s.cause = m.cause := by
  unfold stpTo at h
  obtain ⟨k, _, hk⟩ := List.mem_flatMap.1 h
  cases ho : old[k]? with
  | none => rw [ho] at hk; simp at hk
  | some y => rw [ho] at hk; exact (stp2_src hk).2
/-- What stands in the steps from one lot. -/
theorem stpTo_from (m : Mp) (x : Plan) (old : List Lot) (hid : (old.map (·.id)).Nodup) (g : Stp → List UInt8) (k : Nat) (hk : k < old.length) (i : Nat) (hi : i ≤ old.length) :
    stpSum (stpTo m x old i) (fun s => decide (s.src = old[k].id)) g = if k < i then stpSum (stp2 m x k old[k]) (fun _ => true) g else 0 := by
  induction i with
  | zero => simp [stpTo, stpSum]
  | succ i ih =>
    have hlt : i < old.length := by omega
    rw [stpTo_succ m x old i hlt, stpSum_append, ih (by omega)]
    have hone : stpSum (stp2 m x i old[i]) (fun s => decide (s.src = old[k].id)) g = if i = k then stpSum (stp2 m x i old[i]) (fun _ => true) g else 0 := by
      by_cases e : i = k
      · subst e
        rw [if_pos rfl]
        unfold stpSum
        rw [List.filter_congr (q := fun _ => true)]
        intro s hs
        simp [(stp2_src hs).1]
      · rw [if_neg e]
        unfold stpSum
        have hne : old[i].id ≠ old[k].id := by
          intro h
          apply e
          have h1 := List.pairwise_iff_getElem.1 hid
          rcases Nat.lt_trichotomy i k with h2 | h2 | h2
          · exact absurd (by rw [List.getElem_map, List.getElem_map]; exact h) (h1 i k (by simpa using hlt) (by simpa using hk) h2)
          · exact h2
          · exact absurd (by rw [List.getElem_map, List.getElem_map]; exact h.symm) (h1 k i (by simpa using hk) (by simpa using hlt) h2)
        rw [List.filter_eq_nil_iff.2]
        · rfl
        · intro s hs
          rw [(stp2_src hs).1]
          simpa using hne
    rw [hone]
    by_cases e : i = k
    · subst e
      rw [if_neg (by omega), if_pos rfl, if_pos (by omega)]
      omega
    · rw [if_neg e]
      by_cases h2 : k < i
      · rw [if_pos h2, if_pos (by omega)]; omega
      · rw [if_neg h2, if_neg (by omega)]; rfl
theorem stp1_all (s : Stp) (g : Stp → List UInt8) (hg : s.q = [] ∧ s.made = [] ∧ s.cost = [] → val (g s) = 0) : stpSum (stp1 s) (fun _ => true) g = val (g s) := by
  rw [stp1_sum s _ g hg]; simp
theorem stp2_cost (m : Mp) (x : Plan) (k : Nat) (y : Lot) : stpSum (stp2 m x k y) (fun _ => true) (·.cost) = if x.parts = 0 then x.f.getD k 0 else x.m.getD k 0 := by
  unfold stp2
  simp only
  split
  · rw [stp1_all _ _ (fun h => by rw [h.2.2]; exact val_nil)]
    exact val_txtL _
  · rw [stpSum_append, stp1_all _ _ (fun h => by rw [h.2.2]; exact val_nil), stp1_all _ _ (fun h => by rw [h.2.2]; exact val_nil)]
    show val (txtL _) + val (txtL _) = _
    rw [val_txtL, val_txtL]
    unfold Plan.mv
    omega
theorem stp2_q (m : Mp) (x : Plan) (k : Nat) (y : Lot) : stpSum (stp2 m x k y) (fun _ => true) (·.q) = if m.keep = true then 0 else val y.q := by
  unfold stp2
  simp only
  have hz : ∀ s : Stp, s.q = [] ∧ s.made = [] ∧ s.cost = [] → val s.q = 0 := fun s h => by rw [h.1]; exact val_nil
  split
  · rw [stp1_all _ _ (hz _)]
    show val (ite _ _ _) = _
    split
    · exact val_nil
    · rfl
  · rw [stpSum_append, stp1_all _ _ (hz _), stp1_all _ _ (hz _)]
    show val (ite _ _ _) + val [] = _
    rw [val_nil]
    split
    · rw [val_nil]; rfl
    · omega
theorem stp2_made (m : Mp) (x : Plan) (k : Nat) (y : Lot) : stpSum (stp2 m x k y) (fun _ => true) (·.made) = if x.parts = 0 then 0 else x.n.getD k 0 := by
  unfold stp2
  simp only
  have hz : ∀ s : Stp, s.q = [] ∧ s.made = [] ∧ s.cost = [] → val s.made = 0 := fun s h => by rw [h.2.1]; exact val_nil
  split
  · rw [stp1_all _ _ (hz _)]
    exact val_nil
  · rw [stpSum_append, stp1_all _ _ (hz _), stp1_all _ _ (hz _)]
    show val (txtL _) + val [] = _
    rw [val_nil, val_txtL]
    omega
end Go.Proofs.YtbnfgbcgpbdpcaaGreatDoor
/- What a mapping makes of lots, plain: steps to new lots; lots that become whole; fair parts. -/
namespace Go.Proofs.YtbnfgbcgpbdpcaaGreatDoor
open Go.RowKit Go.Shelf

theorem cntN_mono (n : List Int) {i k : Nat} (h : i ≤ k) : cntN n i ≤ cntN n k := by
  unfold cntN
  have e : n.take i = (n.take k).take i := by rw [List.take_take, Nat.min_eq_left h]
  rw [e]
  exact (List.take_sublist i (n.take k)).countP_le
theorem cntN_inj {n : List Int} {i k : Nat} (hi : i < n.length) (hk : k < n.length) (h1 : n.getD i 0 ≠ 0) (h2 : n.getD k 0 ≠ 0) (h : cntN n i = cntN n k) : i = k := by
  rcases Nat.lt_trichotomy i k with h3 | h3 | h3
  · have e := cntN_succ n i hi
    rw [if_neg h1] at e
    have := cntN_mono n (show i + 1 ≤ k by omega)
    omega
  · exact h3
  · have e := cntN_succ n k hk
    rw [if_neg h2] at e
    have := cntN_mono n (show k + 1 ≤ i by omega)
    omega
theorem newId_ne (c : List UInt8) (k : Nat) : ([] : List UInt8) ≠ newId c k := by unfold newId; simp
/-- What the steps of one old lot bring to a new lot. -/
theorem stp2_to (m : Mp) (x : Plan) (k : Nat) (y : Lot) (j : Nat) (g : Stp → List UInt8) (v : Int) (hp : x.parts ≠ 0) (hg : ∀ s : Stp, s.q = [] ∧ s.made = [] ∧ s.cost = [] → val (g s) = 0) (hv : ∀ d q, val (g { cause := m.cause, src := y.id, dst := d, q := q, made := txtL (x.n.getD k 0), cost := txtL (x.mv k) }) = v) :
    stpSum (stp2 m x k y) (fun s => decide (s.dst = newId m.cause (j + 1))) g = if (if x.n.getD k 0 = 0 then 0 else cntN x.n k) = j then v else 0 := by
  unfold stp2
  simp only
  rw [if_neg hp, stpSum_append, stp1_sum _ _ _ (hg _), stp1_sum _ _ _ (hg _), hv]
  rw [if_neg (c := decide (([] : List UInt8) = newId m.cause (j + 1)) = true) (by simpa using newId_ne m.cause (j + 1)), Int.add_zero]
  have e : newId m.cause (if x.n.getD k 0 = 0 then 1 else cntN x.n k + 1) = newId m.cause (j + 1) ↔ (if x.n.getD k 0 = 0 then 0 else cntN x.n k) = j := by
    constructor
    · intro h
      have := newId_inj h
      split at this <;> split <;> omega
    · intro h
      congr 1
      split at h <;> split <;> omega
  simp only [decide_eq_true_eq, e]
theorem stpTo_to (m : Mp) (x : Plan) (old : List Lot) (hn : x.n.length = old.length) (hp : x.parts ≠ 0) {i : Nat} (hi : i < old.length) (h0 : x.n.getD i 0 ≠ 0) (b : Nat) (hb : b ≤ old.length) :
    stpSum (stpTo m x old b) (fun s => decide (s.dst = newId m.cause (cntN x.n i + 1))) (·.cost) = (if cntN x.n i = 0 then x.rest b else 0) + (if i < b then x.mv i else 0) ∧
    stpSum (stpTo m x old b) (fun s => decide (s.dst = newId m.cause (cntN x.n i + 1))) (·.made) = if i < b then x.n.getD i 0 else 0 := by
  induction b with
  | zero => exact ⟨by simp [stpTo, stpSum, Plan.rest], by simp [stpTo, stpSum]⟩
  | succ b ih =>
    obtain ⟨h1, h2⟩ := ih (by omega)
    have hlt : b < old.length := by omega
    rw [stpTo_succ m x old b hlt, stpSum_append, stpSum_append, h1, h2, rest_succ,
      stp2_to m x b old[b] (cntN x.n i) (·.cost) (x.mv b) hp (fun s h => by rw [h.2.2]; exact val_nil) (fun _ _ => val_txtL _),
      stp2_to m x b old[b] (cntN x.n i) (·.made) (x.n.getD b 0) hp (fun s h => by rw [h.2.1]; exact val_nil) (fun _ _ => val_txtL _)]
    by_cases hb0 : x.n.getD b 0 = 0
    · have hne : i ≠ b := fun e => h0 (by rw [e]; exact hb0)
      rw [if_pos hb0, if_pos hb0, hb0]
      by_cases hib : i < b
      · rw [if_pos hib, if_pos hib, if_pos (show i < b + 1 by omega), if_pos (show i < b + 1 by omega)]
        constructor
        · split <;> (first | rw [if_pos (by omega)] | rw [if_neg (by omega)]) <;> omega
        · split <;> omega
      · rw [if_neg hib, if_neg hib, if_neg (show ¬ i < b + 1 by omega), if_neg (show ¬ i < b + 1 by omega)]
        constructor
        · split <;> (first | rw [if_pos (by omega)] | rw [if_neg (by omega)]) <;> omega
        · split <;> omega
    · rw [if_neg hb0, if_neg hb0]
      by_cases e : i = b
      · subst e
        have hlt2 : i < i + 1 := by omega
        simp only [Nat.lt_irrefl, if_false, if_true, hlt2]
        constructor
        · split <;> omega
        · omega
      · have hne : cntN x.n b ≠ cntN x.n i := fun h => e (cntN_inj (by omega) (by omega) h0 hb0 h.symm)
        rw [if_neg hne, if_neg hne]
        by_cases hib : i < b
        · rw [if_pos hib, if_pos hib, if_pos (show i < b + 1 by omega), if_pos (show i < b + 1 by omega)]
          constructor
          · split <;> omega
          · omega
        · rw [if_neg hib, if_neg hib, if_neg (show ¬ i < b + 1 by omega), if_neg (show ¬ i < b + 1 by omega)]
          constructor
          · split <;> omega
          · omega
end Go.Proofs.YtbnfgbcgpbdpcaaGreatDoor
/- What a mapping makes of lots, plain: lots that become whole; fair parts. -/
namespace Go.Proofs.YtbnfgbcgpbdpcaaGreatDoor
open Go.RowKit Go.Shelf

theorem flo_int (k : Int) : flo ((k : Int) : Rat) = k := by unfold flo; simp
theorem int_of_flr {q : Rat} (h : q - ((flo q : Int) : Rat) = 0) : q = ((flo q : Int) : Rat) := by
  have := Rat.sub_eq_add_neg q ((flo q : Int) : Rat)
  rw [h] at this
  have h2 : q + -((flo q : Int) : Rat) + ((flo q : Int) : Rat) = 0 + ((flo q : Int) : Rat) := by rw [← this]
  rw [Rat.add_assoc, Rat.neg_add_cancel, Rat.add_zero, Rat.zero_add] at h2
  exact h2
theorem rat_inj {a b : Int} (h : (a : Rat) = (b : Rat)) : a = b := by exact_mod_cast h
theorem sum_flo (r : Rat) (l : List Lot) (h : ∀ y ∈ l, ((val y.q : Int) : Rat) * r - ((flo (((val y.q : Int) : Rat) * r) : Int) : Rat) = 0) :
    (((l.map fun y => val y.q).sum : Int) : Rat) * r = (((l.map fun y => flo (((val y.q : Int) : Rat) * r)).sum : Int) : Rat) := by
  induction l with
  | nil => simp
  | cons a l ih =>
    have h1 := int_of_flr (h a (by simp))
    have h2 := ih (fun y hy => h y (by simp [hy]))
    simp only [List.map_cons, List.sum_cons]
    rw [Rat.intCast_add, Rat.add_mul, h2, Rat.intCast_add, ← h1]
section
variable {ls : List Lot} {m : Mp}
/-- All lots become whole. -/
theorem whole_n (h : ∀ y ∈ ls, y.Ok) (hm : m.Ok) (ho : ls ≠ []) (hk : m.keep = false) (hw : ∀ y ∈ ls, ((val y.q : Int) : Rat) * m.ratio.rat - ((flo (((val y.q : Int) : Rat) * m.ratio.rat) : Int) : Rat) = 0) :
    (planL ls m).part = 0 ∧ (planL ls m).n = ls.map (fun y => flo (((val y.q : Int) : Rat) * m.ratio.rat)) ∧ (planL ls m).m = ls.map (fun y => val y.c) ∧ (planL ls m).f = ls.map (fun _ => 0) := by
  obtain ⟨hq, hc⟩ := old_nonneg h
  obtain ⟨s1, s2, s3, s4, s5⟩ := planL_sums h hm ho
  have hok := planL_ok h hm
  have he := sum_flo m.ratio.rat ls hw
  have hp : (planL ls m).part = 0 := by
    show _ * _ - _ = _
    rw [he, flo_int, Rat.sub_self]
  have hmm : (planL ls m).m = ls.map (fun y => val y.c) := by
    have e1 : (planL ls m).m = divS (planL ls m).moved (ls.map fun y => val y.c) := rfl
    rw [e1, hok.all hk, divS_self hc]
  refine ⟨hp, ?_, hmm, ?_⟩
  · have e1 : (planL ls m).n = divS (planL ls m).parts (ls.map fun y => val y.q) := rfl
    have e2 : (planL ls m).parts = (ls.map fun y => flo (((val y.q : Int) : Rat) * m.ratio.rat)).sum := by
      show flo _ = _
      rw [he, flo_int]
    have hdiv : ∀ y ∈ ls, (planL ls m).parts * val y.q = (ls.map fun y => val y.q).sum * flo (((val y.q : Int) : Rat) * m.ratio.rat) := by
      intro y hy
      apply rat_inj
      have h1 := int_of_flr (hw y hy)
      rw [e2, Rat.intCast_mul, Rat.intCast_mul, ← he, ← h1, Rat.mul_assoc, Rat.mul_comm m.ratio.rat]
    rw [e1]
    unfold divS
    rw [if_neg (by omega), posL_exact s5]
    · rw [List.map_map]
      refine List.map_congr_left fun y hy => ?_
      show ((planL ls m).parts * val y.q).fdiv _ = _
      rw [hdiv y hy]
      exact Int.mul_fdiv_cancel_left _ (by omega)
    · intro w hw'
      obtain ⟨y, hy, rfl⟩ := List.mem_map.1 hw'
      rw [hdiv y hy]
      exact Int.mul_fmod_right _ _
  · have e1 : (planL ls m).f = divS (planL ls m).taken (planL ls m).m := rfl
    rw [e1, hok.whole hp, divS_zero, hmm, List.map_map]
    · rfl
    · rw [hmm]; exact hc
theorem freshTo_all (m : Mp) (x : Plan) (old : List Lot) (hn : x.n.length = old.length) (h : ∀ k, k < old.length → x.n.getD k 0 ≠ 0) (i : Nat) (hi : i ≤ old.length) :
    cntN x.n i = i ∧ x.rest i = 0 ∧ (freshTo m x old i).length = i ∧ ∀ k, (hk : k < i) → (freshTo m x old i)[k]? = some (k, newL m x old.length k (old[k]'(by omega))) := by
  induction i with
  | zero => exact ⟨by simp [cntN], rfl, by simp [freshTo], fun k hk => by omega⟩
  | succ i ih =>
    obtain ⟨h1, h2, h3, h4⟩ := ih (by omega)
    have hlt : i < old.length := by omega
    have hi0 := h i hlt
    refine ⟨?_, ?_, ?_, ?_⟩
    · rw [cntN_succ _ _ (by omega), if_neg hi0, h1]
    · rw [rest_succ, if_neg hi0, h2]; rfl
    · rw [freshTo_succ, List.getElem?_eq_getElem hlt]
      simp only [if_neg hi0, List.length_append, h3, List.length_cons, List.length_nil]
    · intro k hk
      rw [freshTo_succ, List.getElem?_eq_getElem hlt]
      simp only [if_neg hi0]
      by_cases e : k = i
      · subst e
        rw [List.getElem?_append_right (by omega), h3]
        simp
      · rw [List.getElem?_append_left (by omega)]
        exact h4 k (by omega)
theorem whole_made (h : ∀ y ∈ ls, y.Ok) (hm : m.Ok) (ho : ls ≠ []) (hk : m.keep = false) (hw : ∀ y ∈ ls, ((val y.q : Int) : Rat) * m.ratio.rat - ((flo (((val y.q : Int) : Rat) * m.ratio.rat) : Int) : Rat) = 0) :
    gainL m (planL ls m) ls = [] ∧ (madeL m (planL ls m) ls).length = ls.length ∧ ∀ i, (hi : i < ls.length) → ∃ z, (madeL m (planL ls m) ls)[i]? = some z ∧ z.q = txtL (flo (((val ls[i].q : Int) : Rat) * m.ratio.rat)) ∧ z.c = ls[i].c ∧ z.acq = ls[i].acq ∧ z.opn = ls[i].opn := by
  obtain ⟨hp, hn, hmm, hf⟩ := whole_n h hm ho hk hw
  have hl := (planL_lens ls m).1
  have hnk : ∀ k, (hk : k < ls.length) → (planL ls m).n.getD k 0 = flo (((val ls[k].q : Int) : Rat) * m.ratio.rat) := by
    intro k hk
    rw [hn, List.getD_eq_getElem?_getD, List.getElem?_map, List.getElem?_eq_getElem hk]
    rfl
  have hpos : ∀ k, k < ls.length → (planL ls m).n.getD k 0 ≠ 0 := by
    intro k hk h0
    rw [hnk k hk] at h0
    have h1 := int_of_flr (hw ls[k] (List.getElem_mem hk))
    rw [h0] at h1
    have h2 : (0 : Rat) < ((val ls[k].q : Int) : Rat) := by exact_mod_cast (h _ (List.getElem_mem hk)).q0
    have h3 := Rat.mul_pos h2 hm.r0
    rw [h1] at h3
    exact absurd h3 Rat.lt_irrefl
  obtain ⟨c1, c2, c3, c4⟩ := freshTo_all m (planL ls m) ls hl hpos ls.length (Nat.le_refl _)
  refine ⟨by unfold gainL; rw [if_pos hp], by unfold madeL freshL; rw [List.length_map]; exact c3, fun i hi => ?_⟩
  refine ⟨newL m (planL ls m) ls.length i ls[i], ?_, ?_, ?_, rfl, rfl⟩
  · unfold madeL freshL
    rw [List.getElem?_map, c4 i hi]
    rfl
  · show txtL _ = _
    rw [hnk i hi]
  · show txtL _ = _
    rw [c2]
    have e1 : (planL ls m).mv i = val ls[i].c := by
      unfold Plan.mv
      rw [hmm, hf, List.getD_eq_getElem?_getD, List.getD_eq_getElem?_getD, List.getElem?_map, List.getElem?_map, List.getElem?_eq_getElem hi]
      show val _ - 0 = _
      omega
    rw [e1]
    have e2 : (if cntN (planL ls m).n i = 0 then (0 : Int) else 0) = 0 := by split <;> rfl
    rw [e2, Int.add_zero]
    exact (canB_eq (h _ (List.getElem_mem hi)).c).symm
/-- Each part is nearer than 1 to what it should be. -/
theorem posL_fair {t : Int} {ws : List Int} (hS : 0 < ws.sum) {i : Nat} {x w : Int} (hi : (posL t ws)[i]? = some x) (hw : ws[i]? = some w) :
    Rat.divInt (t * w) ws.sum - ((x : Int) : Rat) < 1 ∧ -(Rat.divInt (t * w) ws.sum - ((x : Int) : Rat)) < 1 := by
  obtain ⟨hlt, e⟩ := List.getElem?_eq_some_iff.1 hw
  rw [posL_get t ws i hlt, e] at hi
  have h1 := Int.mul_fdiv_add_fmod (t * w) ws.sum
  have h2 := Int.fmod_nonneg_of_pos (t * w) hS
  have h3 := Int.fmod_lt_of_pos (t * w) hS
  have hr : i ∈ upL t ws → 0 < (t * w).fmod ws.sum := by
    intro hu
    have := up_pos t hS hu
    unfold restL at this
    rw [List.getD_eq_getElem?_getD, List.getElem?_map, hw] at this
    exact this
  have hd : Rat.divInt (t * w) ws.sum - ((x : Int) : Rat) = Rat.divInt (t * w - ws.sum * x) ws.sum := by
    rw [← divInt_one x, Rat.divInt_sub_divInt _ _ (by omega) (by omega)]
    congr 1
    · rw [Int.mul_comm ws.sum x]; omega
    · omega
  have hx : -ws.sum < t * w - ws.sum * x ∧ t * w - ws.sum * x < ws.sum := by
    injection hi with hi
    by_cases hu : i ∈ upL t ws
    · rw [if_pos hu] at hi
      have := hr hu
      rw [← hi, Int.mul_add]
      omega
    · rw [if_neg hu] at hi
      rw [← hi]
      omega
  rw [hd]
  have h1r : (1 : Rat) = Rat.divInt 1 1 := rfl
  constructor
  · rw [h1r, lt_divInt _ _ hS (by omega)]; omega
  · rw [Rat.neg_divInt, h1r, lt_divInt _ _ hS (by omega)]; omega
end
end Go.Proofs.YtbnfgbcgpbdpcaaGreatDoor
