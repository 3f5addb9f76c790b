/- The program's bands as an iterator. -/
import Derived.Test.YtiefdlfninhbgaaGreatDoorP5
import Derived.Test.YtiefdlfninhbgaaGreatDoorPl
import Derived.RangeFuncNested
import Derived.RangeFuncBound
import Derived.RangeFuncCalls
import Derived.RangeFuncLeaves
import Derived.Shelf.Abstract
import Derived.Shelf.RegionOpen
import Derived.OwnWalkIn
import Derived.TacticsInMore
import Derived.LoopNIn
import Derived.LoopIn
import Derived.Stop.RegionWithIn
namespace Go.Proofs.YtiefdlfninhbgaaGreatDoor
open Go.RowKit Go.Shelf
attribute [local go_sem] Oper.semAt_some

/-- What a round keeps: the days' box and the days' row. -/
def KeepD (Bd : Nat) (v : Value) (W W' : World) : Prop := W'.heap[Bd]? = W.heap[Bd]? ∧ ∀ g, v.ownBlock = some g → W'.heap[g]? = W.heap[g]?
theorem KeepD.box {Bd : Nat} {v u : Value} {t : TypeId} {W W' : World} (h : KeepD Bd v W W') (hb : Box W Bd t u) : Box W' Bd t u := h.1.trans hb
theorem KeepD.own {α : Type} {enc : α → List Value} {k base Bd : Nat} {e : TypeId} {v : Value} {xs : List α} {W W' : World} (h : KeepD Bd v W W') (ho : Own enc k e W base v xs) : Own enc k e W' base v xs := by
  refine ⟨ho.1, ?_⟩
  rcases ho.2 with h0 | ⟨g, cap, cur, rfl, hbg, hg, r⟩
  · exact .inl h0
  · exact .inr ⟨g, cap, cur, rfl, hbg, (h.2 g rfl).trans hg, r⟩
theorem KeepD.trans {Bd : Nat} {v : Value} {A B C : World} (h : KeepD Bd v A B) (h' : KeepD Bd v B C) : KeepD Bd v A C := ⟨h'.1.trans h.1, fun g hg => (h'.2 g hg).trans (h.2 g hg)⟩
theorem KeepD.refl {Bd : Nat} {v : Value} (A : World) : KeepD Bd v A A := ⟨rfl, fun _ _ => rfl⟩
theorem pairs_take {l : List Int} {i : Nat} {a b : Int} (h1 : l[i]? = some a) (h2 : l[i + 1]? = some b) : (pairs l).take (i + 1) = (pairs l).take i ++ [(a, b)] := by
  obtain ⟨hj, he⟩ := List.getElem?_eq_some_iff.1 (pairs_at h1 h2)
  rw [List.take_succ_eq_append_getElem hj, he]

set_option maxRecDepth 100000 in
set_option maxHeartbeats 1000000 in
theorem bands1_in (n : Nat) (hn : 1 ≤ n) (r Bd base : Nat) (A : Option Addr) (c : Nat) (l : List Int) (hl : l.length ≤ 1000000000) (J Jx : List (Int × Int) → World → Prop)
    (hY : ∀ pre x W, J pre W → pre.length < l.length - 1 → YieldAt Fence.wide (n - 1) Tryz.prog r #[.int .i64 x.1, .int .i64 x.2] W fun e W' =>
      (e = .returned (.bool true) ∧ J (pre ++ [x]) W' ∧ KeepD Bd (.slice A l.length c) W W') ∨ (e = .returned (.bool false) ∧ Jx (pre ++ [x]) W'))
    (hJd : ∀ pre W, J pre W → J pre W.drew)
    (W : World) (hbx : Box W Bd 123 (.slice A l.length c)) (ho : Own I1 1 23 W base (.slice A l.length c) l) (h0 : J [] W) :
    CallsIn Fence.wide n Tryz.prog 98 #[.func (.yield r) #[] #[], .pointer (some ⟨Bd, 0, none⟩)] W fun e W' => (∃ v, e = .returned v) ∧
      ((∃ ys, ys = pairs l ∧ J ys W') ∨ (∃ pre, (∃ k, pre = (pairs l).take k) ∧ Jx pre W')) := by
  have HY := Lib.hid hY; have HJD := Lib.hid hJd; clear hY hJd
  refine callsIn_of_wp Tryz.func98 rfl trivial ?_ rfl
  simp only [Tryz.ntmps98, List.size_toArray, List.length_cons, List.length_nil, Nat.reduceAdd, Nat.reduceSub, Array.replicate_succ, Array.replicate_zero, List.push_toArray, List.append_toArray, List.nil_append, List.cons_append]
  gi_wp2
  gi_loopw [3] (fun i wr => ∃ j : Nat, (j = 0 ∨ j + 1 ≤ l.length) ∧ i = .int .i64 ((j : Int) + 1) ∧ Box wr Bd 123 (.slice A l.length c) ∧ Own I1 1 23 wr base (.slice A l.length c) l ∧ J ((pairs l).take j) wr) (fun i _ => l.length - (intOf i).toNat)
  case atStart => exact ⟨0, .inl rfl, rfl, hbx, ho, by simpa using h0⟩
  case round =>
    obtain ⟨j, hj, rfl, hbx1, ho1, hJ⟩ := hrel
    clear hbx ho h0
    have hc := hbx1.cell
    by_cases hlt : j + 1 < l.length
    · obtain ⟨be, oe, a, hA1, hbe, hla, da⟩ := (ho1.sl I1_len).int (i := j) (by omega)
      obtain ⟨be', oe', b, hA2, _, hlb, db⟩ := (ho1.sl I1_len).int (i := j + 1) hlt
      subst hA1
      injection hA2 with hA2
      injection hA2 with e1 e2
      subst e1; subst e2
      have HPT := Lib.hid (pairs_take hla hlb)
      have HPL := Lib.hid (pairs_len l)
      obtain ⟨fn, tmps, assign, body, hy, hR⟩ := HY.out _ (a, b) wr.drew (HJD.out _ _ hJ) (by rw [List.length_take, HPL.out]; omega)
      dsimp only at hy
      have hR2 := hR.mono (R' := fun e W3 => ∃ bb, e = .returned (.bool bb) ∧ Hid ((bb = true ∧ J ((pairs l).take j ++ [(a, b)]) W3 ∧ KeepD Bd (.slice (some ⟨be, oe, none⟩) l.length c) wr.drew W3) ∨ (bb = false ∧ Jx ((pairs l).take j ++ [(a, b)]) W3)))
        (fun e W3 h => by
          rcases h with ⟨rfl, h1, h2⟩ | ⟨rfl, h1⟩
          · exact ⟨true, rfl, .inl ⟨rfl, h1, h2⟩⟩
          · exact ⟨false, rfl, .inr ⟨rfl, h1⟩⟩)
      have HR := Lib.hid hR2; clear hR hR2
      have HB1 := Lib.hid hbx1; have HO1 := Lib.hid ho1; clear hbx1 ho1 hla hlb hJ HY
      have i1 : (j : Int) < (l.length : Int) := by omega
      have i2 : (j : Int) + 1 < (l.length : Int) := by omega
      have i3 : 0 ≤ (j : Int) + 1 := by omega
      gi_wp2
      have i4 : IntKind.i64.wrap (j : Int) = (j : Int) := IntWalk.i64_in _ (by omega)
      have i5 : ((j : Int) + 1).toNat = j + 1 := by omega
      have hmx : Tryz.prog.follows .mixedOrders = true := by kernel_rfl
      gi_region_with (refine HR.out.mono ?_; rintro e W3 ⟨bb, rfl, HQ⟩)
      all_goals
        clear i4 i5 hy hmx
        cases bb with
        | true =>
          gi_wp2
          rcases HQ.out with ⟨_, hJ3, hk3⟩ | ⟨h, _⟩
          · go_roundw
            case rel => exact ⟨j + 1, .inr (by omega), by go_num, hk3.box HB1.out.drew, hk3.own HO1.out.drew, by rw [HPT.out]; exact hJ3⟩
            case measure => simp [intOf]; omega
          · cases h
        | false =>
          gi_wp2
          rcases HQ.out with ⟨h, _⟩ | ⟨_, hJx3⟩
          · cases h
          · refine bodyPost_ret (results_none rfl _ _ _) rfl ?_
            exact ⟨⟨_, rfl⟩, .inr ⟨_, ⟨j + 1, HPT.out.symm⟩, hJx3⟩⟩
    · have HPA := Lib.hid (show (pairs l).take j = pairs l from List.take_of_length_le (by rw [pairs_len]; omega))
      have HO1 := Lib.hid ho1; have HB1 := Lib.hid hbx1; have HJ := Lib.hid hJ; clear ho1 hbx1 hJ HY
      gi_wp2
      go_end0
      refine ⟨⟨_, rfl⟩, .inl ⟨_, rfl, ?_⟩⟩
      rw [← HPA.out]
      exact HJ.out

theorem bands1_stops (n : Nat) (hn : 1 ≤ n) (Bd base : Nat) (A : Option Addr) (c : Nat) (l : List Int) (hl : l.length ≤ 1000000000) (w : World) (hbx : Box w Bd 123 (.slice A l.length c)) (ho : Own I1 1 23 w base (.slice A l.length c) l) :
    SeqStopsK Fence.wide n Tryz.prog 98 #[.pointer (some ⟨Bd, 0, none⟩)] (fun x : Int × Int => #[Value.int .i64 x.1, Value.int .i64 x.2]) (KeepD Bd (.slice A l.length c)) (fun ys => ys = pairs l) (fun pre => ∃ k, pre = (pairs l).take k) (l.length - 1) w :=
  fun r J Jx W hW hJ _ hY h0 => bands1_in n hn r Bd base A c l hl J Jx hY (fun pre W h => hJ pre W W.drew none h ⟨rfl, rfl, rfl, Nat.le_refl _, fun _ _ _ => rfl⟩ (fun _ e => by cases e)) W (hbx.here hW) (ho.below hW) h0
end Go.Proofs.YtiefdlfninhbgaaGreatDoor
