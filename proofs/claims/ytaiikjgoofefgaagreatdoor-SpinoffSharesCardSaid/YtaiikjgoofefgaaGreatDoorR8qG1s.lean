/- Contract of the reference's read. -/
import Derived.Test.YtaiikjgoofefgaaGreatDoorR1qG1s
import Derived.Test.YtaiikjgoofefgaaGreatDoorR6qG1s
namespace Go.Proofs.YtaiikjgoofefgaaGreatDoor
open Go.RowKit Go.Shelf

/-- A number of the reference in a block of its own. -/
def RNumB (w : World) (p : Nat) (neg : Bool) (A : Option Addr) (n c : Nat) : Prop := w.heap[p]? = some (.cells #[.bool neg, .slice A n c] 69 (0, 0))
section
variable {w w' : World} {p q : Nat} {neg : Bool} {A : Option Addr} {n c : Nat}
theorem RNumB.lt (h : RNumB w p neg A n c) : p < w.heap.size := (Array.getElem?_eq_some_iff.1 h).1
theorem RNumB.cells (h : RNumB w p neg A n c) : w.cell? ⟨p, 0, none⟩ = some (.bool neg) ∧ w.cell? ⟨p, 1, none⟩ = some (.slice A n c) :=
  ⟨cell_of_row w p 0 _ 69 (0, 0) h, cell_of_row w p 1 _ 69 (0, 0) h⟩
theorem RNumB.frozen (h : RNumB w p neg A n c) (j : Nat) : w.frozen? ⟨p, j, none⟩ = false := by
  unfold RNumB at h
  simp [World.frozen?, h]
theorem RNumB.below {N : Nat} (h : RNumB w p neg A n c) (hb : Below N w w') (hg : p < N) : RNumB w' p neg A n c := (hb.block p hg).trans h
theorem RNumB.here (h : RNumB w p neg A n c) (hb : Below w.heap.size w w') : RNumB w' p neg A n c := h.below hb h.lt
theorem RNumB.new (w : World) (neg : Bool) (A : Option Addr) (n c : Nat) : RNumB (w.alloc (.cells #[.bool neg, .slice A n c] 69)) w.heap.size neg A n c := heap_alloc_new w _
theorem RNumB.far (h : RNumB w p neg A n c) {a : Addr} (hp : p ≠ a.block) (u : Value) : RNumB (w.setCell a u) p neg A n c := (Below.heap_setCell w a u p hp).trans h
theorem RNumB.set1 {A' : Option Addr} {n' c' : Nat} (h : RNumB w p neg A n c) : RNumB (w.setCell ⟨p, 1, none⟩ (.slice A' n' c')) p neg A' n' c' := by
  unfold RNumB at h ⊢
  rw [heap_setCell_same w p 1 _ 69 _ h]
  rfl
theorem RNumB.alloc (h : RNumB w p neg A n c) (o : Obj) : RNumB (w.alloc o) p neg A n c := (Below.heap_alloc w o p h.lt).trans h
theorem RNumB.grown {row : Option Nat} (h : RNumB w p neg A n c) (hg : w.grownBy w' row) (hr : ∀ g, row = some g → p ≠ g) : RNumB w' p neg A n c := (hg.block p h.lt (fun e => hr p e.symm rfl)).trans h
end
/-- What read gives. -/
def RReadPost (a : List UInt8) (w : World) (e : Ending) (w' : World) : Prop :=
  ∃ A n c xs, e = .returned (.agg #[.bool (digL a).2, .slice A n c]) ∧ Gi w' w'.heap.size A n xs ∧ n ≤ c ∧ Mag xs (valD (digL a).1) ∧ Below w.heap.size w w'
theorem valD_seg {s : List UInt8} {lo i : Nat} {b : UInt8} (h : s[i]? = some b) (hlo : lo ≤ i) : valD ((s.take (i + 1)).drop lo) = 10 * valD ((s.take i).drop lo) + (b.toNat - 48) := by
  obtain ⟨hi, rfl⟩ := List.getElem?_eq_some_iff.1 h
  rw [List.take_succ_eq_append_getElem hi, List.drop_append_of_le_length (by rw [List.length_take]; omega), valD_snoc]
theorem valD_seg_lt {s : List UInt8} (hd : s.all isDig = true) (lo i : Nat) (h9 : i ≤ lo + 9) : valD ((s.take i).drop lo) < 1000000000 := by
  have h : ((s.take i).drop lo).all isDig = true := by
    rw [List.all_eq_true] at hd ⊢
    exact fun x hx => hd x (List.mem_of_mem_take (List.mem_of_mem_drop hx))
  have h1 := valD_lt h
  have h2 : 10 ^ ((s.take i).drop lo).length ≤ 10 ^ 9 := Nat.pow_le_pow_right (by omega) (by rw [List.length_drop, List.length_take]; omega)
  omega
set_option maxRecDepth 20000 in
set_option maxHeartbeats 1000000 in
theorem rRead_any (a : List UInt8) (w : World) (ha : a.length ≤ 1000000) : Calls Tryz.prog 61 #[S a] w (RReadPost a w) := by
  have hb0 : Below w.heap.size w (w.alloc (.cells #[.bool false, .slice none 0 0] 69)) := (Below.refl _ _).alloc (Nat.le_refl _) _
  have HDG := Lib.hid (rDigits_any a (w.alloc (.cells #[.bool false, .slice none 0 0] 69)) (by omega))
  obtain ⟨hd, hz, _⟩ := digL_ok a
  have hl := digL_len a
  have HP := Lib.hid (show RReadPost a w = fun e w' => ∃ A n c xs, e = .returned (.agg #[.bool (digL a).2, .slice A n c]) ∧ Gi w' w'.heap.size A n xs ∧ n ≤ c ∧ Mag xs (valD (digL a).1) ∧ Below w.heap.size w w' from rfl)
  generalize RReadPost a w = post at *
  generalize (digL a).1 = s at *
  generalize (digL a).2 = neg at *
  have hsl : s.length ≤ 1000000 := by omega
  have HD := Lib.hid hd; have HZ := Lib.hid hz; have HB0 := Lib.hid hb0
  have HR0 := Lib.hid (RNumB.new w false none 0 0)
  clear hd hz hl hb0
  unfold S at *
  go_enter Tryz.func61, Tryz.ntmps61
  go_wp2_with (go_at_call 65; refine HDG.out.mono ?_; rintro e w1 ⟨rfl, rfl⟩)
  have hR1 : RNumB ((w.alloc (.cells #[.bool false, .slice none 0 0] 69)).alloc (.cells #[.bool neg, .slice none 0 0] 69)) (w.heap.size + 1) neg none 0 0 := by
    have := RNumB.new (w.alloc (.cells #[.bool false, .slice none 0 0] 69)) neg none 0 0
    simp only [World.size_alloc] at this
    exact this
  have HRZ := Lib.hid (HR0.out.alloc (.cells #[.bool neg, .slice none 0 0] 69))
  have HR1 := Lib.hid hR1; clear hR1
  have hbA : Below w.heap.size w ((w.alloc (.cells #[.bool false, .slice none 0 0] 69)).alloc (.cells #[.bool neg, .slice none 0 0] 69)) := ((Below.refl _ _).alloc (Nat.le_refl _) _).alloc (by simp) _
  have hsz0 : w.heap.size + 2 ≤ ((w.alloc (.cells #[.bool false, .slice none 0 0] 69)).alloc (.cells #[.bool neg, .slice none 0 0] 69)).heap.size := by simp
  generalize (w.alloc (.cells #[.bool false, .slice none 0 0] 69)).alloc (.cells #[.bool neg, .slice none 0 0] 69) = W1 at *
  go_loopw [6] (fun i wr => ∃ (j co : Nat) (ei : Int) (Ao : Option Addr) (gs : List Nat), j ≤ 1000000 ∧ i = .int .i64 ei ∧ Hid (ei = (s.length : Int) - 9 * j) ∧ Hid (RNumB wr w.heap.size false none 0 0) ∧ Hid (RNumB wr (w.heap.size + 1) neg Ao j co) ∧ Hid (Own G1 1 3 wr (w.heap.size + 2) (.slice Ao j co) gs) ∧ Hid (RInv s j gs) ∧ Hid (9 * j ≤ s.length + 8) ∧ Hid (w.heap.size + 2 ≤ wr.heap.size) ∧ Below w.heap.size w wr) (fun i _ => (intOf i).toNat)
  case atStart => exact ⟨0, 0, _, none, [], by omega, rfl, by show _ = _; simp, HRZ, HR1, Own.nil, RInv.zero s, by show _ ≤ _; omega, hsz0, hbA⟩
  case round =>
    clear HRZ HR1 HR0 hbA hsz0 HDG
    obtain ⟨j, co, ei, Ao, gs, hj, rfl, HE, HRZ, HRN, HO, HI, HJ, HSZ, hb⟩ := hrel
    by_cases hlt : 9 * j < s.length
    · have HR := Lib.hid (HI.out.step HD.out HZ.out hlt)
      obtain ⟨en, hen⟩ : ∃ en : Nat, ei = en := ⟨ei.toNat, by have := HE.out; omega⟩
      subst hen
      have hep : 0 < en := by have := HE.out; omega
      have hel : en ≤ s.length := by have := HE.out; omega
      obtain ⟨lo, hlo⟩ : ∃ lo : Nat, lo = en - 9 := ⟨_, rfl⟩
      have hmx : max 0 ((en : Int) - 9) = (lo : Int) := by omega
      have hle : lo ≤ en := by omega
      have hlo9 : en ≤ lo + 9 := by omega
      have HGO := Lib.hid (show (s.take en).drop lo = grpOf s j by
        unfold grpOf; have h1 := HE.out
        rw [show en = s.length - 9 * j by omega, show lo = s.length - 9 * (j + 1) by omega])
      clear hlo
      have HIL := Lib.hid HI.out.len
      go_wp2_with fail
      go_loop [7, 8] (fun n i => ∃ (k m : Nat), lo ≤ k ∧ k ≤ en ∧ i = .int .i64 k ∧ n = .int .i64 m ∧ m < 1000000000 ∧ Hid (m = valD ((s.take k).drop lo))) (fun _ i => en - (intOf i).toNat)
      case atStart => exact ⟨lo, 0, Nat.le_refl _, hle, rfl, rfl, by omega, by show _ = _; rw [List.drop_of_length_le (by rw [List.length_take]; omega)]; rfl⟩
      case round =>
        obtain ⟨k, m, hk1, hk2, rfl, rfl, hm, HM⟩ := hrel
        by_cases hke : k < en
        · obtain ⟨b, hbb⟩ : ∃ b, s[k]? = some b := ⟨_, List.getElem?_eq_getElem (by omega)⟩
          have hks : k < (⟨s.toArray⟩ : ByteArray).size := by rw [str_size]; omega
          have hbk : (⟨s.toArray⟩ : ByteArray)[k] = b := at_mk hbb hks
          obtain ⟨h1, h2⟩ := (isDig_iff b).1 (by have := HD.out; rw [List.all_eq_true] at this; exact this b (List.mem_of_getElem? hbb))
          have HST := Lib.hid (valD_seg (lo := lo) hbb hk1)
          have hm2 := valD_seg_lt HD.out lo (k + 1) (by omega)
          rw [HST.out, ← HM.out] at hm2
          have hkl : k < s.length := by omega
          clear hbb
          go_wp2
          go_round
          case rel => exact ⟨k + 1, 10 * m + (b.toNat - 48), by omega, by omega, by go_num, by rw [show ((10 * m + (b.toNat - 48) : Nat) : Int) = 10 * (m : Int) + ((b.toNat : Int) - 48) by omega], hm2, by show _ = _; rw [HST.out, ← HM.out]⟩
          case measure => simp [intOf]; omega
        · obtain rfl : k = en := by omega
          have HMV := Lib.hid (show m = valD (grpOf s j) by rw [← HGO.out]; exact HM.out)
          rw [← HMV.out] at HR
          have hked : decide (k < k) = false := by simp
          obtain ⟨c0, c1⟩ := HRN.out.cells
          obtain ⟨q1, q2, q3, hf⟩ := HO.out.facts; clear q1 q2 q3
          have HF := Lib.hid hf; clear hf
          have HRA := Lib.hid (HRN.out.alloc (.cells #[.int .i64 m] 3))
          go_wp2_with (at_builtin; refine wpList_app _ rfl (.tmp 39) (.tmp 41) _ rfl elemInts G1_len G1_one (base := w.heap.size + 2) (.slice Ao j co) gs rfl (HO.out.alloc _) _ _ 1 1 [m] rfl (Sl.lit wr #[.int .i64 m] 3 [m] rfl G1_len) (by rw [HIL.out]; omega) (by have := HSZ.out; simp; omega) ?_; intro A4 c4 w4 ho4 hg4 hat4
                       rw [HIL.out] at ho4 ⊢
                       have hrow : ∀ g, (Value.slice Ao j co).ownBlock = some g → w.heap.size + 2 ≤ g := fun g e => by
                         rcases HF.out with ⟨h, _⟩ | ⟨g', h, hg1, hg2⟩
                         · rw [h] at e; simp [Value.ownBlock] at e
                         · rw [h] at e; simp [Value.ownBlock] at e; omega
                       have hRN4 := HRA.out.grown hg4 (fun g e => by have := hrow g e; omega)
                       have c4a := hRN4.cells.1; have c4b := hRN4.cells.2; have f4a := hRN4.frozen 0; have f4b := hRN4.frozen 1)
          have HR4 := Lib.hid hRN4; have HO4 := Lib.hid ho4; have HROW := Lib.hid hrow
          have HZ4 := Lib.hid ((HRZ.out.alloc (.cells #[.int .i64 m] 3)).grown hg4 (fun g e => by have := HROW.out g e; omega))
          have hb4 : Below w.heap.size w w4 := below_grown (hb.alloc hb.size _) hg4 (by have := hb.size; simp; omega) (fun g e => by have := HROW.out g e; omega)
          have HS4 := Lib.hid (show w.heap.size + 2 ≤ w4.heap.size by have h1 := hg4.size; have h2 := HSZ.out; simp at h1; omega)
          clear hRN4 ho4 hrow hg4 hat4 c4a c4b f4a f4b c0 c1
          go_roundw
          case rel =>
            refine ⟨j + 1, c4, (k : Int) - 9, A4, gs ++ [m], by have := HE.out; omega, rfl, by show _ = _; have := HE.out; omega, HZ4.out.far (by simp) _, HR4.out.set1, ?_, HR, by show _ ≤ _; omega, ?_, hb4.setCell (p := ⟨w.heap.size + 1, 1, none⟩) (by simp only; omega) _⟩
            · refine HO4.out.far ?_ _
              rcases HO4.out.facts.2.2.2 with ⟨h, _⟩ | ⟨g, h, hg1, _⟩
              · rw [h]; simp [Value.ownBlock]
              · rw [h]; simp only [Value.ownBlock]; intro e; injection e with e; omega
            · show _ ≤ _
              have := HS4.out; simp; omega
          case measure => simp [intOf]; omega
    · have hei : ei ≤ 0 := by have := HE.out; omega
      obtain ⟨c0, c1⟩ := HRN.out.cells
      obtain ⟨z0, z1⟩ := HRZ.out.cells
      have f0 := HRZ.out.frozen 0; have f1 := HRZ.out.frozen 1
      go_wp2_with fail
      rw [HP.out]
      have hne : (Value.slice Ao j co).ownBlock ≠ some w.heap.size := by
        rcases HO.out.facts.2.2.2 with ⟨h, _⟩ | ⟨g, h, hg1, hg2⟩
        · rw [h]; simp [Value.ownBlock]
        · rw [h]; simp only [Value.ownBlock]; intro h; injection h with h; omega
      refine bodyPost_ret (v := .agg #[.bool neg, .slice Ao j co]) (by simp [results, Tryz.results61, go_sem, z0, z1]) rfl ⟨Ao, j, co, gs, rfl, ?_, ?_, ?_, ?_⟩
      · exact ((HO.out.far hne _).far hne _).sl G1_len
      · have h1 := HO.out.facts.2.1; have h2 := HO.out.facts.1; omega
      · exact ⟨HI.out.ok, HI.out.nz (by omega), by rw [HI.out.val, show s.length - 9 * j = 0 by omega]; rfl⟩
      · exact (hb.setCell (p := ⟨w.heap.size, 0, none⟩) (Nat.le_refl _) _).setCell (p := ⟨w.heap.size, 1, none⟩) (Nat.le_refl _) _
end Go.Proofs.YtaiikjgoofefgaaGreatDoor
