/- Contract of the reference's Of. -/
import Derived.Test.YtiefdlfninhbgaaGreatDoorDg
namespace Go.Proofs.YtiefdlfninhbgaaGreatDoor
open Go.RowKit Go.Shelf

/-- The state of Of's loop: what is left of the number, and the digits so far. -/
def OfRel (N : Nat) (s m : Value) : Prop := ∃ (k : Nat) (t : List UInt8), m = .int .i64 k ∧ (k : Int) ≤ 9223372036854775807 ∧ s = .string ⟨t.toArray⟩ ∧ digs N = digs k ++ t
set_option maxRecDepth 20000 in
set_option maxHeartbeats 400000 in
theorem rOf_pos (n : Int) (h0 : 0 < n) (h1 : n ≤ 9223372036854775807) (w : World) :
    Calls Tryz.prog 42 #[.int .i64 n] w fun e w' => e = .returned (S (txtL n)) ∧ w = w' := by
  have hne : (n == 0) = false := by simp; omega
  have HT := Lib.hid (show txtL n = digs n.natAbs by unfold txtL digs; rw [if_neg (by omega), if_neg (by omega), if_neg (by omega)])
  have HL := Lib.hid (digs_len n.natAbs (by omega))
  have hnn : n = (n.natAbs : Int) := by omega
  generalize n.natAbs = N at *
  have HNN := Lib.hid hnn; clear hnn
  go_enter Tryz.func42, Tryz.ntmps42
  go_wp2
  go_loop [3, 4, 5] (fun s m _ => OfRel N s m) (fun _ m _ => (intOf m).toNat)
  case atStart => exact ⟨N, [], by rw [HNN.out], by rw [← HNN.out]; omega, rfl, by simp⟩
  case round =>
    obtain ⟨k, t, rfl, hk, rfl, hd⟩ := hrel
    have HD := Lib.hid hd; clear hd
    by_cases hk0 : k = 0
    · subst hk0
      go_wp2
      go_ret
      refine ⟨?_, rfl⟩
      rw [HT.out, HD.out]
      rfl
    · have hkb : ((k : Int) != 0) = true := by simp; omega
      have HS := Lib.hid (digs_step k hk0)
      have htl : t.length ≤ 19 := by have h1 := HL.out; rw [HD.out, List.length_append] at h1; omega
      go_wp2
      all_goals first
        | (exfalso
           have := enc_mod_size k
           omega)
        | (go_round
           case rel =>
             refine ⟨k / 10, UInt8.ofNat (48 + k % 10) :: t, by go_num, by omega, ?_, ?_⟩
             · rw [enc_mod]; exact congrArg Value.string (mk_append [UInt8.ofNat (48 + k % 10)] t)
             · rw [HD.out, HS.out, List.append_assoc]; rfl
           case measure => simp [intOf]; omega)
end Go.Proofs.YtiefdlfninhbgaaGreatDoor
