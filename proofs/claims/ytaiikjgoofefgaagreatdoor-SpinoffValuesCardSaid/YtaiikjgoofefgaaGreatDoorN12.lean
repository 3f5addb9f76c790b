/- Contract of integer's magnitude.single. -/
import Derived.Test.YtaiikjgoofefgaaGreatDoorN11
namespace Go.Proofs.YtaiikjgoofefgaaGreatDoor
open Go.RowKit Go.Shelf

/-- What single gives. -/
def SinglePost (q r : Nat) (w : World) (e : Ending) (w' : World) : Prop := ∃ A n c xs, e = .returned (.tuple #[.slice A n c, .int .u64 r]) ∧ Own U1 1 78 w' w.heap.size (.slice A n c) xs ∧ Mag xs q ∧ Below w.heap.size w w'
set_option maxRecDepth 20000 in
set_option maxHeartbeats 4000000 in
theorem single_any (A : Option Addr) (n c : Nat) (xs : List Nat) (u d : Nat) (w : World) (hx : Gr w w.heap.size A n xs) (gx : Gs xs) (hu : gv xs = u) (hd0 : 0 < d) (hd : d < 1000000000) (hn : n ≤ 1000000) :
    Calls Tryz.prog 119 #[.slice A n c, .int .u64 d] w (SinglePost (u / d) (u % d) w) := by
  have HX := Lib.hid hx; have HG := Lib.hid gx; have HU := Lib.hid hu
  have HXN := Lib.hid hx.1
  clear hx gx hu
  have HPO := Lib.hid (show SinglePost (u / d) (u % d) w = fun e w' => ∃ A n c xs, e = .returned (.tuple #[.slice A n c, .int .u64 (u % d : Nat)]) ∧ Own U1 1 78 w' w.heap.size (.slice A n c) xs ∧ Mag xs (u / d) ∧ Below w.heap.size w w' from rfl)
  generalize SinglePost (u / d) (u % d) w = post at *
  obtain ⟨w1, hmk, ho1, hb1⟩ := make_u w w.heap.size n n (n : Int) (n : Int) rfl rfl (by omega) (by omega) (Nat.le_refl _)
  have HO1 := Lib.hid ho1; clear ho1
  have HT0 := Lib.hid (SgInv.start xs d hd0)
  rw [← HXN.out] at HT0
  go_enter Tryz.func119, Tryz.ntmps119
  go_wp2_with fail
  clear hmk
  go_loopw [7, 8] (fun r i wr => ∃ (k rest : Nat) (ii : Int) (os : List Nat), i = .int .i64 ii ∧ Hid (ii = (k : Int) - 1) ∧ k ≤ n ∧ r = .int .u64 rest ∧ rest < d ∧ Hid (SgInv xs d k rest os) ∧ Hid (Own U1 1 78 wr w.heap.size (.slice (some ⟨w.heap.size, 0, none⟩) n n) os) ∧ Below w.heap.size w wr) (fun _ i _ => (intOf i + 1).toNat)
  case atStart => exact ⟨n, 0, _, _, rfl, by show _ = _; rfl, Nat.le_refl _, rfl, hd0, HT0, HO1, hb1⟩
  case round =>
    clear HT0 HO1 hb1
    obtain ⟨k, rest, ii, os, rfl, HII, hk, rfl, hrd, HI, HO, hb⟩ := hrel
    by_cases hk0 : k = 0
    · subst hk0
      have hi0 : ii < 0 := by have := HII.out; omega
      have HDN := Lib.hid (HI.out.done HU.out)
      have HCUT := Lib.hid (cut_any (some ⟨w.heap.size, 0, none⟩) n n os wr (HO.out.sl U1_len) (Nat.le_refl _) (by omega))
      go_wp2_with fail
      (with_reducible refine HCUT.out.mono ?_)
      rintro e w3 ⟨j, rfl, hj, hgv, hnz, rfl⟩
      go_wp2_with fail
      rw [HPO.out]
      exact ⟨_, j, _, os.take j, by rw [HDN.out.2.2]; rfl, HO.out.shrink U1_len (by rw [← HO.out.facts.1]; exact hj), ⟨HDN.out.1.take j, hnz, by rw [hgv]; exact HDN.out.2.1⟩, hb⟩
    · obtain ⟨i, rfl⟩ : ∃ i, k = i + 1 := ⟨k - 1, by omega⟩
      obtain rfl : ii = (i : Int) := by have := HII.out; omega
      obtain ⟨xb, xo, x, rfl, hxb, hxi, d0⟩ := HX.out.grp (i := i) (by omega)
      have d0' := (hb.cell (p := ⟨xb, xo + i, none⟩) hxb).trans d0
      have hx9 := HG.out.at_ hxi
      have HST := Lib.hid (HI.out.step hxi HG.out hd)
      obtain ⟨gb, go, o, e', _, ho, f1⟩ := (HO.out.sl U1_len).grp (i := i) (by omega)
      injection e' with e'
      injection e' with e1 e2
      subst e1; subst e2
      simp only [Nat.zero_add] at f1
      have HOK := Lib.hid ho
      have f0 := HO.out.frozen i
      clear ho d0 hxi
      obtain ⟨X, hX⟩ : ∃ X : Nat, X = rest * 1000000000 + x := ⟨_, rfl⟩
      have hXi : (rest : Int) * 1000000000 + (x : Int) = (X : Int) := by rw [hX]; simp
      have hXl : X < 1000000000000000000 := by omega
      rw [← hX] at HST
      have hq : (X : Int) / (d : Int) = ((X / d : Nat) : Int) := by simp
      have hr : (X : Int) % (d : Int) = ((X % d : Nat) : Int) := by simp
      have hql : X / d ≤ X := Nat.div_le_self _ _
      have hrl : X % d < d := Nat.mod_lt _ hd0
      have hdn : ((d : Int) == 0) = false := by simp; omega
      clear hX
      generalize X / d = q at *
      generalize X % d = r at *
      go_wp2_with fail
      go_roundw
      case rel =>
        have h3 := HO.out.setU (i := i) (y := q) HOK.out
        refine ⟨i, r, (i : Int) - 1, os.set i q, rfl, by show _ = _; rfl, by omega, by rw [hr], hrl, HST, ?_, ?_⟩
        · show Own _ _ _ _ _ _ _
          with_reducible exact h3
        · with_reducible exact (hb.setCell (Nat.le_refl _) _)
      case measure => simp [intOf]
end Go.Proofs.YtaiikjgoofefgaaGreatDoor
