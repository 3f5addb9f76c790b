/- Merged texts: Gc, Gd. -/
import Derived.Test.YtbnfgbcgpbdpcaaGreatDoorQGW5
import Derived.RangeFuncBound
import Derived.RangeFuncLeaves
import Derived.Shelf.Abstract
import Derived.Shelf.RegionOpen
import Derived.OwnWalkIn
import Derived.TacticsInMore
import Derived.LoopNIn
import Derived.LoopIn
import Derived.Stop.RegionWithIn
/- The iterator of Euclid's algorithm. -/
namespace Go.Proofs.YtbnfgbcgpbdpcaaGreatDoor
open Go.RowKit Go.Shelf
attribute [local go_sem] Oper.semAt_some

theorem Gr.unique {W : World} {B B' : Nat} {A : Option Addr} {n : Nat} {xs ys : List Nat} (h : Gr W B A n xs) (h' : Gr W B' A n ys) : xs = ys := by
  apply List.ext_getElem?
  intro i
  by_cases hi : i < n
  · obtain ⟨b, off, x, hA, _, hx, hc⟩ := h.grp hi
    obtain ⟨b', off', y, hA', _, hy, hc'⟩ := h'.grp hi
    rw [hA] at hA'
    injection hA' with e
    injection e with e1 e2
    subst e1; subst e2
    rw [hc] at hc'
    injection hc' with e
    injection e with _ e
    rw [hx, hy]
    congr 1
    omega
  · rw [List.getElem?_eq_none (by rw [← h.1]; omega), List.getElem?_eq_none (by rw [← h'.1]; omega)]
/-- The magnitude that a variable's slice reads as. -/
noncomputable def magAt (W : World) (p : Nat) : Nat := Classical.epsilon fun v => ∃ A n c ys, Box W p 71 (.slice A n c) ∧ Gr W W.heap.size A n ys ∧ Mag ys v
theorem magAt_eq {W : World} {p n c v : Nat} {A : Option Addr} {ys : List Nat} (hb : Box W p 71 (.slice A n c)) (hg : Gr W W.heap.size A n ys) (hm : Mag ys v) : magAt W p = v := by
  have h := Classical.epsilon_spec (p := fun v => ∃ A n c ys, Box W p 71 (.slice A n c) ∧ Gr W W.heap.size A n ys ∧ Mag ys v) ⟨v, A, n, c, ys, hb, hg, hm⟩
  obtain ⟨A', n', c', ys', hb', hg', hm'⟩ := h
  unfold Box at hb hb'
  rw [hb] at hb'
  simp only [Option.some.injEq, Obj.cells.injEq, and_true, Array.mk.injEq, List.cons.injEq, Value.slice.injEq] at hb'
  obtain ⟨rfl, rfl, rfl⟩ := hb'
  have := hg.unique hg'
  subst this
  unfold magAt
  rw [← hm'.val, hm.val]
/-- A row of groups abides what touches a box, or a loop's record. -/
theorem Gr.kp2 {W W' : World} {p q n : Nat} {A : Option Addr} {xs : List Nat} (h : Gr W W.heap.size A n xs) (hk : Kp2 p q W W') (hp : ∀ o x, W.cell? ⟨p, o, none⟩ ≠ some (.int .u64 x)) (hq : ∀ o x, W.cell? ⟨q, o, none⟩ ≠ some (.int .u64 x)) : Gr W' W'.heap.size A n xs := by
  refine Sl.more (B := W.heap.size) ⟨h.1, fun hn => ?_⟩ hk.size
  obtain ⟨b, off, e, hb, hc⟩ := h.2 hn
  obtain ⟨b', off', x0, e', _, _, hc0⟩ := h.grp (i := 0) hn
  rw [e] at e'
  injection e' with e'
  injection e' with e1 e2
  subst e1; subst e2
  refine ⟨b, off, e, hb, fun i x hi j u hj => ?_⟩
  have h1 : b ≠ p := fun e => hp _ _ (e ▸ hc0)
  have h2 : b ≠ q := fun e => hq _ _ (e ▸ hc0)
  have := hk.2 b hb h1 h2
  have hcell : W'.cell? ⟨b, off + i * 1 + j, none⟩ = W.cell? ⟨b, off + i * 1 + j, none⟩ := World.cell?_of_block this
  rw [hcell]
  exact hc i x hi j u hj
theorem Box.notU {W : World} {p : Nat} {t : TypeId} {A : Option Addr} {n c : Nat} (h : Box W p t (.slice A n c)) (o : Nat) (x : Int) : W.cell? ⟨p, o, none⟩ ≠ some (.int .u64 x) := by
  intro h2
  have := cell_of_row W p o #[.slice A n c] t (0, 0) h
  rw [this] at h2
  cases o with
  | zero => simp at h2
  | succ o => simp at h2
theorem loop_notU {W : World} {l : Nat} {r : Loop} (h : W.heap[l]? = some (.loop r)) (o : Nat) (x : Int) : W.cell? ⟨l, o, none⟩ ≠ some (.int .u64 x) := by
  intro h2
  unfold World.cell? at h2
  simp [h] at h2
/-- What the iterator's state is: two boxes with magnitudes. -/
structure EuSt (G pm pn : Nat) (A A' : Option Addr) (n c n' c' : Nat) (xs ys : List Nat) (u v : Nat) (W : World) : Prop where
  bm : Box W pm 71 (.slice A n c)
  bn : Box W pn 71 (.slice A' n' c')
  gm : Gr W W.heap.size A n xs
  gn : Gr W W.heap.size A' n' ys
  mm : Mag xs u
  mn : Mag ys v
  gcd : Nat.gcd u v = G
  lm : n ≤ 100000
  ln : n' ≤ 100000
  cm : n ≤ c
  cn : n' ≤ c'
def EuT (G : Nat) (s : Value) (W : World) : Prop := ∃ A n c zs, s = .slice A n c ∧ Gr W W.heap.size A n zs ∧ Mag zs G ∧ n ≤ c ∧ n ≤ 100000
theorem EuSt.kp2 {G pm pn p q : Nat} {A A' : Option Addr} {n c n' c' : Nat} {xs ys : List Nat} {u v : Nat} {W W' : World} (h : EuSt G pm pn A A' n c n' c' xs ys u v W) (hk : Kp2 p q W W') (hp : ∀ o x, W.cell? ⟨p, o, none⟩ ≠ some (.int .u64 x)) (hq : ∀ o x, W.cell? ⟨q, o, none⟩ ≠ some (.int .u64 x)) (h1 : pm ≠ p) (h2 : pm ≠ q) (h3 : pn ≠ p) (h4 : pn ≠ q) : EuSt G pm pn A A' n c n' c' xs ys u v W' :=
  ⟨hk.box h.bm h1 h2, hk.box h.bn h3 h4, h.gm.kp2 hk hp hq, h.gn.kp2 hk hp hq, h.mm, h.mn, h.gcd, h.lm, h.ln, h.cm, h.cn⟩
theorem EuSt.here {G pm pn : Nat} {A A' : Option Addr} {n c n' c' : Nat} {xs ys : List Nat} {u v : Nat} {W W' : World} (h : EuSt G pm pn A A' n c n' c' xs ys u v W) (hb : Below W.heap.size W W') : EuSt G pm pn A A' n c n' c' xs ys u v W' :=
  ⟨h.bm.here hb, h.bn.here hb, h.gm.here hb, h.gn.here hb, h.mm, h.mn, h.gcd, h.lm, h.ln, h.cm, h.cn⟩
set_option maxRecDepth 100000 in
set_option maxHeartbeats 1000000 in
theorem steps1_in (k : Nat) (hk : 1 ≤ k) (G l po pm pn : Nat) (J : Value → World → Prop) (h12 : pm ≠ pn) (h1o : pm ≠ po) (h1l : pm ≠ l) (h2o : pn ≠ po) (h2l : pn ≠ l)
    (hJi : ∀ s A B, J s A → Kp2 pm pn A B → J s B) (hJl : ∀ s A, J s A → ∃ r, A.heap[l]? = some (.loop r)) (hJb : ∀ s A, J s A → ∃ t v, Box A po t v ∧ (∃ B m c, v = .slice B m c))
    (hY : ∀ s B m c y W1, J s W1 → YieldAt Fence.wide (k - 1) Tryz.prog l #[.slice B m c, y] W1 fun e W' => e = .returned (.bool true) ∧ J (.slice B m c) W' ∧ Kp2 po l W1 W')
    (s0 : Value) (W : World) (h0 : J s0 W) (A A' : Option Addr) (n c n' c' : Nat) (xs ys : List Nat) (u v : Nat) (hE : EuSt G pm pn A A' n c n' c' xs ys u v W) :
    CallsIn Fence.wide k Tryz.prog 181 #[.func (.yield l) #[] #[], .pointer (some ⟨pm, 0, none⟩), .pointer (some ⟨pn, 0, none⟩)] W fun e W' => (∃ v, e = .returned v) ∧ ∃ s, J s W' ∧ EuT G s W' := by
  have HY := Lib.hid hY; have HJI := Lib.hid hJi; have HJL := Lib.hid hJl; have HJB := Lib.hid hJb; clear hY hJi hJl hJb
  refine callsIn_of_wp Tryz.func181 rfl trivial ?_ rfl
  simp only [Tryz.ntmps181, List.size_toArray, List.length_cons, List.length_nil, Nat.reduceAdd, Nat.reduceSub, Array.replicate_succ, Array.replicate_zero, List.push_toArray, List.append_toArray, List.nil_append, List.cons_append]
  gi_wp2
  gi_loopw [5] (fun _ wr => ∃ (s : Value) (A A' : Option Addr) (n c n' c' : Nat) (xs ys : List Nat) (u v : Nat), Hid (J s wr) ∧ Hid (EuSt G pm pn A A' n c n' c' xs ys u v wr)) (fun _ wr => magAt wr pn)
  case atStart => exact ⟨s0, A, A', n, c, n', c', xs, ys, u, v, h0, hE⟩
  case round =>
    clear h0 hE
    obtain ⟨s, A, A', n, c, n', c', xs, ys, u, v, HJ, HE⟩ := hrel
    have c1 := HE.out.bm.cell
    have c2 := HE.out.bn.cell
    obtain ⟨fn, tmps, assign, body, hy, hR⟩ := HY.out s A n c (.slice A' n' c') wr HJ.out
    have hR2 := hR.mono (R' := fun e W3 => e = .returned (.bool true) ∧ Hid (J (.slice A n c) W3 ∧ EuSt G pm pn A A' n c n' c' xs ys u v W3)) (fun e W3 h => by
      obtain ⟨he, hj, hkp⟩ := h
      obtain ⟨t, vv, hbx, B, m, cc, rfl⟩ := HJB.out _ _ HJ.out
      obtain ⟨r, hl⟩ := HJL.out _ _ HJ.out
      exact ⟨he, hj, HE.out.kp2 hkp (fun o x => hbx.notU o x) (fun o x => loop_notU hl o x) h1o h1l h2o h2l⟩)
    have HR := Lib.hid hR2; clear hR hR2
    have HMA := Lib.hid (magAt_eq HE.out.bn HE.out.gn HE.out.mn)
    gi_wp2_with fail
    refine HR.out.mono ?_
    rintro e W3 ⟨rfl, HQ⟩
    have HJ3 := Lib.hid HQ.out.1; have HE3 := Lib.hid HQ.out.2
    clear HQ hy HR c1 c2 HJ HE
    have c1 := HE3.out.bm.cell
    have c2 := HE3.out.bn.cell
    by_cases hv : v = 0
    · have hn0 : n' = 0 := by rw [HE3.out.gn.1, HE3.out.mn.nil_iff.2 hv]; rfl
      have hnd : decide (0 < n') = false := by simp [hn0]
      have HG := Lib.hid (show u = G by have := HE3.out.gcd; rw [hv, Nat.gcd_zero_right] at this; exact this)
      clear hn0
      gi_wp2_with fail
      go_end0
      exact ⟨⟨_, rfl⟩, _, HJ3.out, A, n, c, xs, rfl, HE3.out.gm, by rw [← HG.out]; exact HE3.out.mm, HE3.out.cm, HE3.out.lm⟩
    · have hn1 : 0 < n' := by
        rcases Nat.eq_zero_or_pos n' with h | h
        · exact absurd (HE3.out.mn.nil_iff.1 (List.eq_nil_of_length_eq_zero (by rw [← HE3.out.gn.1]; exact h))) hv
        · exact h
      have hnd : decide (0 < n') = true := by simpa using hn1
      have HDV := Lib.hid (divide_any A A' n n' c c' xs ys u v W3 HE3.out.gm HE3.out.gn HE3.out.mm HE3.out.mn HE3.out.lm HE3.out.ln HE3.out.cm (by omega))
      have f1 := HE3.out.bm.frozen
      have f2 := HE3.out.bn.frozen
      gi_wp2_with fail
      refine ⟨trivial, ?_⟩
      refine (callsIn_wide.2 HDV.out).mono ?_
      rintro e w4 ⟨A1, n1, c1', qs, A2, n2, c2', rs, rfl, hg1, hc1, mg1, hg2, hc2, mg2, hb4⟩
      have HE4 := Lib.hid (HE3.out.here hb4)
      have HG2 := Lib.hid hg2; have HM2 := Lib.hid mg2
      have HJ4 := Lib.hid (HJI.out _ _ _ HJ3.out (Kp2.below (p := pm) (q := pn) hb4))
      clear hg1 mg1 hg2 mg2 c1 c2 f1 f2 hc1 HDV
      have c1 := HE4.out.bm.cell
      have c2 := HE4.out.bn.cell
      have f1 := HE4.out.bm.frozen
      have f2 := HE4.out.bn.frozen
      gi_wp2_with fail
      have hW : Kp2 pm pn w4 ((w4.setCell ⟨pm, 0, none⟩ (.slice A' n' c')).setCell ⟨pn, 0, none⟩ (.slice A2 n2 c2')) := ((Kp2.refl pm pn w4).set1 0 _).set2 0 _
      have hE5 : EuSt G pm pn A' A2 n' c' n2 c2' ys rs v (u % v) ((w4.setCell ⟨pm, 0, none⟩ (.slice A' n' c')).setCell ⟨pn, 0, none⟩ (.slice A2 n2 c2')) := by
        refine ⟨(HE4.out.bm.set_ _).far (by exact h12) _, (HE4.out.bn.far (by exact fun e => h12 e.symm) _).set_ _, HE4.out.gn.kp2 hW (fun o x => HE4.out.bm.notU o x) (fun o x => HE4.out.bn.notU o x), HG2.out.kp2 hW (fun o x => HE4.out.bm.notU o x) (fun o x => HE4.out.bn.notU o x), HE4.out.mn, HM2.out, ?_, HE4.out.ln, ?_, HE4.out.cn, hc2⟩
        · rw [← HE4.out.gcd, Nat.gcd_comm v, ← Nat.gcd_rec, Nat.gcd_comm]
        · rw [HG2.out.1]
          refine Nat.le_trans (HM2.out.len (k := n') ?_) HE4.out.ln
          have h1 := Nat.mod_lt u (show 0 < v by omega)
          have h2 := gv_lt HE4.out.mn.gs
          rw [HE4.out.mn.val, ← HE4.out.gn.1] at h2
          omega
      go_roundw
      case rel => exact ⟨.slice A n c, A', A2, n', c', n2, c2', ys, rs, v, u % v, HJI.out _ _ _ HJ4.out hW, hE5⟩
      case measure =>
        rw [HMA.out, magAt_eq hE5.bn hE5.gn hE5.mn]
        exact Nat.mod_lt _ (by omega)
end Go.Proofs.YtbnfgbcgpbdpcaaGreatDoor
/- Contract of integer.Gcd. -/
namespace Go.Proofs.YtbnfgbcgpbdpcaaGreatDoor
open Go.RowKit Go.Shelf
attribute [local go_sem] Oper.semAt_some

theorem steps_any (A A' : Option Addr) (n c n' c' : Nat) (w : World) : Calls Tryz.prog 161 #[.slice A n c, .slice A' n' c'] w fun e w' => e = .returned (.func (.func 181) #[] #[.pointer (some ⟨w.heap.size, 0, none⟩), .pointer (some ⟨w.heap.size + 1, 0, none⟩)]) ∧ (w.alloc (.cells #[.slice A n c] 71)).alloc (.cells #[.slice A' n' c'] 71) = w' := by
  go_enter Tryz.func161, Tryz.ntmps161
  go_wp2
  go_ret
  exact ⟨rfl, rfl⟩
theorem fld_mag (W : World) (b : Bool) (A : Option Addr) (n c : Nat) : (Instr.field 73 (.agg #[.bool b, .slice A n c]) 1).run Tryz.prog W = .ok (.slice A n c) W := by
  kernel_rfl
theorem gcd_val (a b : List UInt8) : Nat.gcd (valD (digL a).1) (valD (digL b).1) = Int.gcd (val a) (val b) := by
  unfold Int.gcd val
  split <;> split <;> simp
set_option maxRecDepth 100000 in
set_option maxHeartbeats 1000000 in
theorem Gcd_any (a b : List UInt8) (w : World) (hp : Pow w) (ha : a.length ≤ 100000) (hb : b.length ≤ 100000) : Calls Tryz.prog 125 #[S a, S b] w (StrPost (txtL (Int.gcd (val a) (val b) : Nat)) w) := by
  have HRa := Lib.hid (fun W => read_any a W (by omega))
  have HRb := Lib.hid (fun W => read_any b W (by omega))
  obtain ⟨K, hK⟩ : ∃ K : Nat, K = 100000 := ⟨_, rfl⟩
  have hva := valD_small (show a.length ≤ K by omega)
  have hvb := valD_small (show b.length ≤ K by omega)
  have HK := Lib.hid hK; clear hK
  have HPO := Lib.hid (show StrPost (txtL (Int.gcd (val a) (val b) : Nat)) w = fun e w' => e = .returned (S (txtL (Int.gcd (val a) (val b) : Nat))) ∧ Below w.heap.size w w' from rfl)
  have HGV := Lib.hid (gcd_val a b)
  unfold ReadPost at HRa HRb
  have HVA := Lib.hid hva; have HVB := Lib.hid hvb; have HP := Lib.hid hp
  generalize StrPost (txtL (Int.gcd (val a) (val b) : Nat)) w = post at *
  generalize Int.gcd (val a) (val b) = G at *
  generalize (digL a).2 = na at *
  generalize (digL b).2 = nb at *
  generalize valD (digL a).1 = u at *
  generalize valD (digL b).1 = v at *
  clear ha hb hva hvb hp
  unfold S at *
  refine (callsIn_wide (n := 5)).1 ?_
  refine callsIn_of_wp_marks Tryz.func125 rfl trivial ?_ rfl
  simp only [Tryz.ntmps125, List.size_toArray, List.length_cons, List.length_nil, Nat.reduceAdd, Nat.reduceSub, Array.replicate_succ, Array.replicate_zero, List.push_toArray, List.append_toArray, List.nil_append, List.cons_append]
  gi_wp2_with fail
  refine ⟨trivial, ?_⟩
  have bO0 := Box.new w 71 (.slice none 0 0)
  have hb0 : Below w.heap.size w (w.alloc (.cells #[.slice none 0 0] 71)) := (Below.refl _ _).alloc (Nat.le_refl _) _
  generalize w.alloc (.cells #[.slice none 0 0] 71) = W0 at *
  refine (callsIn_wide.2 (HRa.out W0)).mono ?_
  rintro e w1 ⟨A1, n1, c1, xs, rfl, ho1, mg1, hb1⟩
  have HO1 := Lib.hid ho1; have HM1 := Lib.hid mg1; clear ho1 mg1 HRa
  have hf1 := fld_mag w1 na A1 n1 c1
  gi_wp2_with fail
  refine ⟨trivial, ?_⟩
  refine (callsIn_wide.2 (HRb.out w1)).mono ?_
  rintro e w2 ⟨A2, n2, c2, ys, rfl, ho2, mg2, hb2⟩
  have HO2 := Lib.hid ho2; have HM2 := Lib.hid mg2; clear ho2 mg2 HRb hf1
  have hf2 := fld_mag w2 nb A2 n2 c2
  have HX1 := Lib.hid ((HO1.out.below hb2).sl U1_len)
  have HX2 := Lib.hid (HO2.out.sl U1_len)
  have HL1 := Lib.hid (show n1 ≤ K by rw [HX1.out.1]; exact HM1.out.len HVA.out)
  have HL2 := Lib.hid (show n2 ≤ K by rw [HX2.out.1]; exact HM2.out.len HVB.out)
  have hcap1 : n1 ≤ c1 := by obtain ⟨h1, h2, _⟩ := HO1.out.facts; omega
  have hcap2 : n2 ≤ c2 := by obtain ⟨h1, h2, _⟩ := HO2.out.facts; omega
  have bO2 := (bO0.here hb1).here hb2
  have hb02 := hb0.trans ((hb1.trans (hb2.mono hb1.size)).mono hb0.size)
  have hlt : w.heap.size < w2.heap.size := bO2.lt
  gi_wp2_with fail
  refine ⟨trivial, ?_⟩
  refine (callsIn_wide.2 (steps_any A1 A2 n1 c1 n2 c2 w2)).mono ?_
  rintro e w3 ⟨rfl, rfl⟩
  have hbA : Below w2.heap.size w2 ((w2.alloc (.cells #[.slice A1 n1 c1] 71)).alloc (.cells #[.slice A2 n2 c2] 71)) := ((Below.refl _ _).alloc (Nat.le_refl _) _).alloc (by simp) _
  have bm : Box ((w2.alloc (.cells #[.slice A1 n1 c1] 71)).alloc (.cells #[.slice A2 n2 c2] 71)) w2.heap.size 71 (.slice A1 n1 c1) := (Box.new w2 _ _).alloc _
  have bn : Box ((w2.alloc (.cells #[.slice A1 n1 c1] 71)).alloc (.cells #[.slice A2 n2 c2] 71)) (w2.heap.size + 1) 71 (.slice A2 n2 c2) := by
    have := Box.new (w2.alloc (.cells #[.slice A1 n1 c1] 71)) 71 (.slice A2 n2 c2)
    simpa using this
  have bO3 := bO2.here hbA
  have HE := Lib.hid (show EuSt G w2.heap.size (w2.heap.size + 1) A1 A2 n1 c1 n2 c2 xs ys u v _ from ⟨bm, bn, HX1.out.here hbA, HX2.out.here hbA, HM1.out, HM2.out, HGV.out, by have := HL1.out; have := HK.out; omega, by have := HL2.out; have := HK.out; omega, hcap1, hcap2⟩)
  have hb03 := hb02.trans (hbA.mono hb02.size)
  have hsz3 : w2.heap.size + 2 = ((w2.alloc (.cells #[.slice A1 n1 c1] 71)).alloc (.cells #[.slice A2 n2 c2] 71)).heap.size := by simp
  clear bm bn hbA HX1 HX2 HO1 HO2 hb1 hb2 bO0 bO2 hb0 hb02
  gi_wp2_with fail
  generalize (w2.alloc (.cells #[.slice A1 n1 c1] 71)).alloc (.cells #[.slice A2 n2 c2] 71) = W3 at *
  have HSZ := Lib.hid hsz3; clear hsz3 hf2
  have h3 := HSZ.out
  refine wpIn_rangeFunc_last (F := Fence.wide) (n := 5) rfl (by omega) (gf := 181) (lb := #[.pointer (some ⟨w2.heap.size, 0, none⟩), .pointer (some ⟨w2.heap.size + 1, 0, none⟩)]) rfl trivial (enters_of Tryz.func181 (by kernel_rfl) rfl)
    w.heap.size (by omega) (Kp2 w2.heap.size (w2.heap.size + 1)) (EuT G) (fun A B h b hb1 hb2 => h.2 b hb2 (by omega) (by omega)) (.slice none 0 0) ?hseq rfl
    (fun s W => Box W w.heap.size 71 s ∧ (∃ B m c, s = .slice B m c) ∧ Below w.heap.size w W)
    (fun s A B ⟨h1, h2, h3⟩ hk => ⟨hk.box h1 (by omega) (by omega), h2, hk.under h3 (by have := h3.size; omega) (by omega) (by omega)⟩)
    (fun s A ⟨h1, h2, _⟩ => ⟨_, s, h1, h2⟩)
    (fun s A B l hl ⟨h1, h2, h3⟩ hk => ⟨hk.box h1 (by omega) (by omega), h2, hk.under h3 (by have := h3.size; omega) (by omega) (by omega)⟩)
    ⟨bO3, ⟨_, _, _, rfl⟩, hb03⟩
    (fun x y => { tmps := #[.string ⟨a.toArray⟩, .string ⟨b.toArray⟩, undef, undef, .string ⟨#[]⟩, .pointer (some ⟨w.heap.size, 0, none⟩), x, .string ⟨a.toArray⟩, .agg #[.bool na, .slice A1 n1 c1], .slice A1 n1 c1, .string ⟨b.toArray⟩, .agg #[.bool nb, .slice A2 n2 c2], .slice A2 n2 c2, .func (.func 181) #[] #[.pointer (some ⟨w2.heap.size, 0, none⟩), .pointer (some ⟨w2.heap.size + 1, 0, none⟩)], x, y, undef, undef, undef, undef], defers := [] })
    ?assign ?body ?done
  case hseq =>
    intro l J W hl hbW hJi hJl hJb hY h0
    have hE := HE.out.here hbW
    exact steps1_in 4 (by omega) G l w.heap.size w2.heap.size (w2.heap.size + 1) J (by omega) (by omega) (by omega) (by omega) (by omega) hJi hJl hJb hY (.slice none 0 0) W h0 A1 A2 n1 c1 n2 c2 xs ys u v hE
  case assign =>
    intro l x y W K hK
    gi_wp2
    exact hK
  case body =>
    rintro l s B m c y W hl ⟨hbx, hs, hbl⟩
    have c0 := hbx.cell
    have f0 := hbx.frozen
    gi_wp2
    exact ⟨(Kp2.refl w.heap.size w.heap.size W).set1 0 _, hbx.set_ _, hbl.setCell (p := ⟨w.heap.size, 0, none⟩) (Nat.le_refl _) _⟩
  case done =>
    rintro D s W W0 hD ⟨hbx, hs, hbl⟩ ⟨A5, n5, c5, zs, rfl, hg5, mg5, hc5, hn5⟩ hk ⟨r, hr⟩ hK
    have c0 := hbx.cell
    have hg := hg5.kp2 hk (fun o x => loop_notU hr o x) (fun o x => loop_notU hr o x)
    have HTX := Lib.hid (text_any false A5 n5 c5 zs W hg mg5.gs hc5 (by omega) (HP.out.here hbl))
    rw [mg5.val, numT_sv, show sv false G = (G : Int) from rfl] at HTX
    unfold S at HTX
    clear hg hg5 mg5 h3
    gi_wp2_with fail
    refine ⟨trivial, ?_⟩
    refine (callsIn_wide.2 HTX.out).mono ?_
    rintro e w6 ⟨rfl, hb6⟩
    have hK6 : w6.heap[D]? = some (.deferred (some [])) := (hb6.block D (Array.getElem?_eq_some_iff.1 hK).1).trans hK
    have hb06 := hbl.trans (hb6.mono hbl.size)
    gi_wp2
    refine ⟨by simp, .inl ⟨_, _, rfl, run_takeDeferred hK6, ?_⟩⟩
    refine ⟨_, results_tmp rfl _ _ _, ?_⟩
    rw [HPO.out]
    refine ⟨rfl, ?_⟩
    exact hb06.grown (grownBy_putObj' w6 D (.deferred none)) (by have := hb06.size; omega) (fun r e => by cases e; have := HSZ.out; omega)
end Go.Proofs.YtbnfgbcgpbdpcaaGreatDoor
