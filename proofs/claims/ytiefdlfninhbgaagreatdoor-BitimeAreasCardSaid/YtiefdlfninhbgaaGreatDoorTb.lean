/- The table of powers of ten that strconv reads; integer.Of of every machine integer. -/
import Derived.Test.YtiefdlfninhbgaaGreatDoorN1
import Derived.Lib.LaidTab
import Derived.Lib.AppendIntMem
namespace Go.Proofs.YtiefdlfninhbgaaGreatDoor
open Go.RowKit Go.Shelf

def Pow (w : World) : Prop := Lib.TabIs Tryz.prog w "internal/strconv.uint64pow10" .u64 Lib.pow10Tab
theorem Pow.here {w w' : World} (h : Pow w) (hb : Below w.heap.size w w') : Pow w' := Lib.tabBelow_of_tabIs h w' hb
theorem itoa_any (n : Int) (h0 : -9223372036854775808 ≤ n) (h1 : n ≤ 9223372036854775807) (w : World) (hp : Pow w) :
    Calls Tryz.prog 52 #[.int .i64 n] w fun e w' => e = .returned (S (Lib.itoa n)) ∧ Below w.heap.size w w' := by
  refine (Tryz.strconv_Itoa n h0 h1 w hp).mono ?_
  rintro e w' ⟨rfl, k, os, rfl⟩
  exact ⟨rfl, Lib.below_grow _ w (Nat.le_refl _) k os⟩
theorem itoa_len (n : Int) (h0 : -9223372036854775808 ≤ n) (h1 : n ≤ 9223372036854775807) : (Lib.itoa n).length ≤ 20 := by
  unfold Lib.itoa
  split
  · rw [List.length_cons]
    have := decDigits_len n.natAbs (by omega)
    omega
  · have := decDigits_len n.toNat (by omega)
    omega
theorem of_any (n : Int) (h0 : -9223372036854775808 ≤ n) (h1 : n ≤ 9223372036854775807) (w : World) (hp : Pow w) :
    Calls Tryz.prog 31 #[.int .i64 n] w fun e w' => e = .returned (S (ofL n)) ∧ Below w.heap.size w w' := by
  have H1 := Lib.hid (itoa_any n h0 h1 w hp)
  have hl := itoa_len n h0 h1
  have H2 := Lib.hid (fun W => canonical_any (Lib.itoa n) W (by omega))
  have HO := Lib.hid (show ofL n = canonL (Lib.itoa n) from rfl)
  clear hl h0 h1 hp
  generalize Lib.itoa n = s at *
  unfold S at *
  go_enter Tryz.func31, Tryz.ntmps31
  go_wp2_with (first
    | (go_at_call 52; refine H1.out.mono ?_; rintro e w1 ⟨rfl, hb1⟩)
    | (go_at_call 51; refine (H2.out _).mono ?_; rintro e w2 ⟨rfl, hb2⟩))
  go_ret
  rw [HO.out]
  exact ⟨rfl, hb1.trans (hb2.mono hb1.size)⟩
end Go.Proofs.YtiefdlfninhbgaaGreatDoor
