/- Contract of slices.Concat at regions. -/
import Derived.Test.YtiefdlfninhbgaaGreatDoorShelf
import Derived.Test.YtiefdlfninhbgaaGreatDoorW2
namespace Go.Proofs.YtiefdlfninhbgaaGreatDoor
open Go.RowKit Go.Shelf

/-- A slice as a cell. -/
structure SlV where
  A : Option Addr
  n : Nat
  c : Nat
def SlV.vals (s : SlV) : List Value := [.slice s.A s.n s.c]
theorem SlV.vals_len (s : SlV) : s.vals.length = 1 := rfl
theorem SlV.vals_one (s : SlV) : ∀ u ∈ s.vals, u.oneCell' = true := by simp [SlV.vals, Value.oneCell']
def RgsAll (w : World) (B : Nat) (rs : List SlV) (xss : List (List Reg)) : Prop := rs.length = xss.length ∧ ∀ (i : Nat) r xs, rs[i]? = some r → xss[i]? = some xs → Rgs w B r.A r.n xs
theorem RgsAll.at_ {w : World} {B : Nat} {rs : List SlV} {xss : List (List Reg)} (h : RgsAll w B rs xss) {i : Nat} {r : SlV} (hr : rs[i]? = some r) : ∃ xs, xss[i]? = some xs ∧ Rgs w B r.A r.n xs := by
  have hi := (List.getElem?_eq_some_iff.1 hr).1
  have hb : xss[i]? = some (xss[i]'(by rw [← h.1]; exact hi)) := List.getElem?_eq_getElem _
  exact ⟨_, hb, h.2 i r _ hr hb⟩
theorem Sl.slv {w : World} {B : Nat} {A : Option Addr} {n : Nat} {xs : List SlV} {i : Nat} (h : Sl SlV.vals 1 w B A n xs) (hi : i < n) :
    ∃ b off s, A = some ⟨b, off, none⟩ ∧ b < B ∧ xs[i]? = some s ∧ w.cell? ⟨b, off + i, none⟩ = some (.slice s.A s.n s.c) := by
  obtain ⟨b, off, x, hA, hb, hx, hc⟩ := h.at_ hi
  exact ⟨b, off, x, hA, hb, hx, by have := hc 0 _ rfl; simpa using this⟩

theorem growR_any (n : Nat) (w : World) (hn : n ≤ 1000000000) :
    Calls Tryz.prog 50 #[.slice none 0 0, .int .i64 n] w (RetOwn Reg.vals 4 35 w.heap.size w []) := by
  by_cases h0 : n = 0
  · subst h0
    refine (Any8.slices_Grow_room Tryz.growReg none 0 0 0 w (by omega) (by omega) (by omega) (by omega)).mono ?_
    rintro e w' ⟨rfl, rfl⟩
    exact RetOwn.mk rfl Own.nil (Below.refl _ _)
  · obtain ⟨i, z, ht, hi, hz, hsize, hby, hzs, hsz, hb⟩ := elemRegs
    refine (Any8.slices_Grow_grow Tryz.growReg i z hi hz (by omega) none 0 0 n [] w (by omega) (by omega) (by rw [hby]; omega) (by omega) (by simp) (fun _ => rfl) (fun a h => by cases h)).mono ?_
    rintro e w' ⟨rfl, rfl⟩
    have hge := grownCap_ge w (0 + n) 0 35
    refine RetOwn.mk rfl (n := 0) (A := some ⟨w.heap.size, 0, none⟩) ?_ ((Below.refl _ _).drew.alloc (Nat.le_refl _) _)
    have hcur : (([] : List Value).toArray ++ Builtin.zeroCells z.cells (0 + n - 0) ++ Builtin.zeroCells z.cells (grownCap w (0 + n) 0 35 - (0 + n))).size = grownCap w (0 + n) 0 35 * 4 := by
      generalize grownCap w (0 + n) 0 35 = gc at *
      simp only [Array.size_append, size_zeroCells, hzs]
      simp
      omega
    exact World.ownsRow_made (base := w.heap.size) (e := 35) (size := 4) w.drew _ _ (Nat.le_refl _) (grownCap_le_maxLen w (0 + n) 0 35 (by unfold maxLen; omega)) hcur

def lensTo (xss : List (List Reg)) (j : Nat) : Nat := ((xss.take j).flatten).length
theorem lensTo_step {xss : List (List Reg)} {j : Nat} {xs : List Reg} (h : xss[j]? = some xs) : (xss.take (j + 1)).flatten = (xss.take j).flatten ++ xs := by
  obtain ⟨hj, rfl⟩ := List.getElem?_eq_some_iff.1 h
  rw [List.take_succ_eq_append_getElem hj, List.flatten_append]; simp

set_option maxHeartbeats 1000000 in
theorem concat_any (A : Option Addr) (n c : Nat) (rs : List SlV) (xss : List (List Reg)) (w : World) (hr : Sl SlV.vals 1 w w.heap.size A n rs) (hx : RgsAll w w.heap.size rs xss) (hn : n ≤ 1000) (hl : ∀ xs ∈ xss, xs.length ≤ 100000) :
    Calls Tryz.prog 30 #[.slice A n c] w (RetOwn Reg.vals 4 35 w.heap.size w xss.flatten) := by
  have hnl := hr.1
  have HX := Lib.hid hx; have HL := Lib.hid hl; clear hx hl
  have HNL := Lib.hid hnl; clear hnl
  go_enter Tryz.func30, Tryz.ntmps30
  go_wp2
  go_loop [3, 5, 11] (fun s _ i => ∃ (j t : Nat), j ≤ n ∧ i = .int .i64 j ∧ s = .int .i64 t ∧ t ≤ j * 100000 ∧ Hid (t = ((xss.take j).flatten).length)) (fun _ _ i => n - (intOf i).toNat)
  case atStart => exact ⟨0, 0, Nat.zero_le _, rfl, rfl, Nat.zero_le _, by show _ = _; simp⟩
  case round =>
    obtain ⟨j, t, hj, rfl, rfl, ht, HT⟩ := hrel
    by_cases hlt : j < n
    · obtain ⟨b, off, r, rfl, hbl, hxj, d0⟩ := hr.slv hlt
      obtain ⟨xs, hxs, hrg⟩ := HX.out.at_ hxj
      have HST := Lib.hid (lensTo_step hxs)
      have hrn : r.n ≤ 100000 := by rw [hrg.1]; exact HL.out xs (List.mem_of_getElem? hxs)
      have HRN := Lib.hid hrg.1
      have HR := Lib.hid hr; clear hr hxj hxs hrg
      go_wp2
      go_round
      case rel => exact ⟨j + 1, t + r.n, by omega, by go_num, by go_num, by omega, by show _ = _; rw [HST.out, List.length_append, ← HT.out, HRN.out]⟩
      case measure => simp [intOf]; omega
    · obtain rfl : j = n := by omega
      have hA : True := trivial
      go_wp2_with (go_at_call 50; refine (growR_any t w (by omega)).mono ?_; rintro e w1 ⟨A1, c1, rfl, ho1, hb1⟩)
      have HO1 := Lib.hid ho1; clear ho1
      go_loopw [6, 8, 27] (fun v _ i wr => ∃ (p m co : Nat) (Ao : Option Addr), p ≤ j ∧ i = .int .i64 p ∧ v = .slice Ao m co ∧ m ≤ p * 100000 ∧ Own Reg.vals 4 35 wr w.heap.size (.slice Ao m co) ((xss.take p).flatten) ∧ Below w.heap.size w wr) (fun _ _ i _ => j - (intOf i).toNat)
      case atStart => exact ⟨0, 0, c1, A1, Nat.zero_le _, rfl, rfl, Nat.zero_le _, by simpa using HO1.out, hb1⟩
      case round =>
        clear HO1 hb1
        obtain ⟨p, m, co, Ao, hp, rfl, rfl, hm, ho, hb⟩ := hrel
        by_cases hlt2 : p < j
        · obtain ⟨b, off, r, rfl, hbl, hxj, d0⟩ := (hr.below hb).slv hlt2
          obtain ⟨xs, hxs, hrg⟩ := HX.out.at_ hxj
          have HST := Lib.hid (lensTo_step hxs)
          have hrn : r.n ≤ 100000 := by rw [hrg.1]; exact HL.out xs (List.mem_of_getElem? hxs)
          generalize (xss.take p).flatten = pre at *
          obtain ⟨rfl, _, _, hAo⟩ := ho.facts
          have HAo := Lib.hid hAo; have HO := Lib.hid ho; have HRG := Lib.hid hrg; clear hAo ho hrg
          have HR := Lib.hid hr; clear hr hxj hxs
          go_wp2_with (at_builtin; refine wpList_app _ rfl (.tmp 31) (.tmp 32) _ rfl elemRegs Reg.vals_len Reg.vals_one (base := w.heap.size) (.slice Ao pre.length co) pre rfl HO.out w.heap.size r.A r.n r.c xs rfl (HRG.out.below hb) (by omega) hb.size ?_; intro A4 c4 w4 ho4 hg4 hat4)
          go_roundw
          case rel =>
            refine ⟨p + 1, pre.length + r.n, c4, A4, by omega, by go_num, rfl, by omega, by rw [HST.out]; exact ho4, below_grown hb hg4 hb.size (fun g' e => ?_)⟩
            rcases HAo.out with ⟨rfl, _⟩ | ⟨g, rfl, hg1, hg2⟩
            · simp [Value.ownBlock] at e
            · simp [Value.ownBlock] at e; omega
          case measure => simp [intOf]; omega
        · have HO := Lib.hid ho; clear ho
          have HE := Lib.hid (show (xss.take p).flatten = xss.flatten by rw [List.take_of_length_le (by rw [← HX.out.1, ← HNL.out]; omega)])
          go_wp2
          go_ret
          refine RetOwn.mk rfl ?_ hb
          rw [← HE.out]
          exact HO.out
end Go.Proofs.YtiefdlfninhbgaaGreatDoor
