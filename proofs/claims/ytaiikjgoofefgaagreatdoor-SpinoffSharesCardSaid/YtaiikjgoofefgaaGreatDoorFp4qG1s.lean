/- Contracts of fraction's apply and operations. -/
import Derived.Test.YtaiikjgoofefgaaGreatDoorFp3qG1s
import Derived.Laws.EntriesVeiled
namespace Go.Proofs.YtaiikjgoofefgaaGreatDoor
open Go.RowKit Go.Shelf

set_option maxRecDepth 20000 in
set_option maxHeartbeats 1000000 in
theorem apply_any (g : Nat) (F : Int → Int → Int → Int → Int × Int) (hop : FOp g F) (p : Nat) (f h : Fr) (w : World) (hp0 : p < w.heap.size) (hc : w.cell? ⟨p, 0, none⟩ = some (.func (.func 43) #[] #[])) (hp : Pow w) (hf : f.Sz 20000) (hh : h.Sz 20000)
    (h0 : (F (val f.n) f.dv (val h.n) h.dv).2 ≠ 0) (hl1 : (txtL (F (val f.n) f.dv (val h.n) h.dv).1).length ≤ 50000) (hl2 : (txtL (F (val f.n) f.dv (val h.n) h.dv).2).length ≤ 50000) :
    Calls Tryz.prog 26 #[.func (.func g) #[] #[.pointer (some ⟨p, 0, none⟩)], FrV f, FrV h] w (FracPost (frOf (Rat.divInt (F (val f.n) f.dv (val h.n) h.dv).1 (F (val f.n) f.dv (val h.n) h.dv).2)) w) := by
  have HOP := Lib.hid (fun W hlt hc hp => hop.calls f.n f.dt h.n h.dt p W hlt hc hp hf.1 (Fr.dt_len hf.2 (by omega)) hh.1 (Fr.dt_len hh.2 (by omega)))
  simp only [Fr.val_dt] at HOP
  have eg := hop.enters
  have HPO := Lib.hid (show FracPost (frOf (Rat.divInt (F (val f.n) f.dv (val h.n) h.dv).1 (F (val f.n) f.dv (val h.n) h.dv).2)) w = fun e w' => e = .returned (FrV (frOf (Rat.divInt (F (val f.n) f.dv (val h.n) h.dv).1 (F (val f.n) f.dv (val h.n) h.dv).2))) ∧ Below w.heap.size w w' from rfl)
  generalize FracPost (frOf (Rat.divInt (F (val f.n) f.dv (val h.n) h.dv).1 (F (val f.n) f.dv (val h.n) h.dv).2)) w = post at *
  generalize (F (val f.n) f.dv (val h.n) h.dv).1 = x at *
  generalize (F (val f.n) f.dv (val h.n) h.dv).2 = y at *
  have hB1 : FrB (((w.alloc (.cells #[.string ⟨f.n.toArray⟩, .string ⟨f.d.toArray⟩] 24)).alloc (.cells #[.string ⟨h.n.toArray⟩, .string ⟨h.d.toArray⟩] 24)).alloc (.cells #[.string ⟨#[]⟩, .string ⟨#[]⟩] 24)) w.heap.size f := ((FrB.new w f).alloc _).alloc _
  have hB2 : FrB (((w.alloc (.cells #[.string ⟨f.n.toArray⟩, .string ⟨f.d.toArray⟩] 24)).alloc (.cells #[.string ⟨h.n.toArray⟩, .string ⟨h.d.toArray⟩] 24)).alloc (.cells #[.string ⟨#[]⟩, .string ⟨#[]⟩] 24)) (w.heap.size + 1) h := by
    have := (FrB.new (w.alloc (.cells #[.string ⟨f.n.toArray⟩, .string ⟨f.d.toArray⟩] 24)) h).alloc (.cells #[.string ⟨#[]⟩, .string ⟨#[]⟩] 24)
    simpa using this
  have hB3 : FrB (((w.alloc (.cells #[.string ⟨f.n.toArray⟩, .string ⟨f.d.toArray⟩] 24)).alloc (.cells #[.string ⟨h.n.toArray⟩, .string ⟨h.d.toArray⟩] 24)).alloc (.cells #[.string ⟨#[]⟩, .string ⟨#[]⟩] 24)) (w.heap.size + 1 + 1) Fr.zero := by
    have := FrB.new ((w.alloc (.cells #[.string ⟨f.n.toArray⟩, .string ⟨f.d.toArray⟩] 24)).alloc (.cells #[.string ⟨h.n.toArray⟩, .string ⟨h.d.toArray⟩] 24)) Fr.zero
    simp only [World.size_alloc] at this
    exact this
  have hbA : Below w.heap.size w (((w.alloc (.cells #[.string ⟨f.n.toArray⟩, .string ⟨f.d.toArray⟩] 24)).alloc (.cells #[.string ⟨h.n.toArray⟩, .string ⟨h.d.toArray⟩] 24)).alloc (.cells #[.string ⟨#[]⟩, .string ⟨#[]⟩] 24)) := (((Below.refl _ _).alloc (Nat.le_refl _) _).alloc (by simp) _).alloc (by simp; omega) _
  have HB1 := Lib.hid hB1; have HB2 := Lib.hid hB2; have HB3 := Lib.hid hB3; have HBA := Lib.hid hbA
  have HP1 := Lib.hid (fun W => parts_any f W (by have := hf.2; omega))
  have HP2 := Lib.hid (fun W => parts_any h W (by have := hh.2; omega))
  have HMD := Lib.hid (fun W hp => made_any (txtL x) (txtL y) W hp hl1 hl2 (by rw [val_txtL]; exact h0))
  rw [val_txtL, val_txtL] at HMD
  have HC := Lib.hid hc; have HP := Lib.hid hp
  obtain ⟨x0, x1⟩ := hB1.cells
  clear hB1 hB2 hB3 hbA hc hp hf hh hl1 hl2 h0 hop
  unfold FrV at *
  unfold S at *
  go_enter Tryz.func26, Tryz.ntmps26
  go_wp2_with fail
  generalize (((w.alloc (.cells #[.string ⟨f.n.toArray⟩, .string ⟨f.d.toArray⟩] 24)).alloc (.cells #[.string ⟨h.n.toArray⟩, .string ⟨h.d.toArray⟩] 24)).alloc (.cells #[.string ⟨#[]⟩, .string ⟨#[]⟩] 24)) = W at *
  refine (HP1.out W).mono ?_
  rintro e w1 ⟨rfl, hb1⟩
  unfold S
  have hb01 := HBA.out.trans (hb1.mono HBA.out.size)
  clear x0 x1
  obtain ⟨y0, y1⟩ := (HB2.out.here hb1).cells
  go_wp2_with fail
  refine (HP2.out w1).mono ?_
  rintro e w2 ⟨rfl, hb2⟩
  unfold S
  have hb02 := hb01.trans (hb2.mono hb01.size)
  have hbW2 := hb1.trans (hb2.mono hb1.size)
  have HO2 := Lib.hid (HOP.out w2 (Nat.lt_of_lt_of_le hp0 hb02.size) ((hb02.cell (p := ⟨p, 0, none⟩) hp0).trans HC.out) (HP.out.here hb02))
  clear y0 y1
  go_wp2_with fail
  refine HO2.out.mono ?_
  rintro e w3 ⟨rfl, hb3⟩
  unfold S
  have hb03 := hb02.trans (hb3.mono hb02.size)
  have hbW3 := hbW2.trans (hb3.mono hbW2.size)
  have HM3 := Lib.hid (HMD.out w3 (HP.out.here hb03))
  go_wp2_with fail
  refine HM3.out.mono ?_
  rintro e w4 ⟨rfl, hb4⟩
  have hbW4 := hbW3.trans (hb4.mono hbW3.size)
  have hb04 := hb03.trans (hb4.mono hb03.size)
  have HB4 := Lib.hid (HB3.out.here hbW4)
  obtain ⟨z0, z1⟩ := HB4.out.cells
  have f0 := HB4.out.frozen 0; have f1 := HB4.out.frozen 1
  generalize frOf (Rat.divInt x y) = res at *
  unfold FrV S
  go_wp2_with fail
  refine bodyPost_ret (v := .agg #[.string ⟨res.n.toArray⟩, .string ⟨res.d.toArray⟩]) (by simp [results, Tryz.results26, go_sem, z0, z1]) rfl ?_
  rw [HPO.out]
  exact ⟨rfl, (hb04.setCell (p := ⟨w.heap.size + 1 + 1, 0, none⟩) (by simp only; omega) _).setCell (p := ⟨w.heap.size + 1 + 1, 1, none⟩) (by simp only; omega) _⟩
/-- What operations gives: the four closures over one variable that holds the multiplication. -/
def OpsPost (w : World) (e : Ending) (w' : World) : Prop :=
  ∃ p, e = .returned (.agg #[.func (.func 44) #[] #[.pointer (some ⟨p, 0, none⟩)], .func (.func 46) #[] #[.pointer (some ⟨p, 0, none⟩)], .func (.func 48) #[] #[.pointer (some ⟨p, 0, none⟩)], .func (.func 49) #[] #[.pointer (some ⟨p, 0, none⟩)]]) ∧
    p < w'.heap.size ∧ w'.cell? ⟨p, 0, none⟩ = some (.func (.func 43) #[] #[]) ∧ Below w.heap.size w w'
theorem ops_any (w : World) : Calls Tryz.prog 27 #[] w (OpsPost w) := by
  have HPO := Lib.hid (show OpsPost w = fun e w' => ∃ p, e = .returned (.agg #[.func (.func 44) #[] #[.pointer (some ⟨p, 0, none⟩)], .func (.func 46) #[] #[.pointer (some ⟨p, 0, none⟩)], .func (.func 48) #[] #[.pointer (some ⟨p, 0, none⟩)], .func (.func 49) #[] #[.pointer (some ⟨p, 0, none⟩)]]) ∧
    p < w'.heap.size ∧ w'.cell? ⟨p, 0, none⟩ = some (.func (.func 43) #[] #[]) ∧ Below w.heap.size w w' from rfl)
  generalize OpsPost w = post at *
  go_enter Tryz.func27, Tryz.ntmps27
  go_wp2_with fail
  refine bodyPost_ret (v := .agg #[.func (.func 44) #[] #[.pointer (some ⟨w.heap.size + 1, 0, none⟩)], .func (.func 46) #[] #[.pointer (some ⟨w.heap.size + 1, 0, none⟩)], .func (.func 48) #[] #[.pointer (some ⟨w.heap.size + 1, 0, none⟩)], .func (.func 49) #[] #[.pointer (some ⟨w.heap.size + 1, 0, none⟩)]]) (by simp [results, Tryz.results27, go_sem]) rfl ?_
  rw [HPO.out]
  refine ⟨w.heap.size + 1, rfl, by simp, ?_, ((Below.refl _ _).alloc (Nat.le_refl _) _).alloc (by simp) _⟩
  have := World.cell?_alloc_new (w.alloc (.cells #[.func (.func 44) #[] #[.pointer (some ⟨w.heap.size + 1, 0, none⟩)], .func (.func 46) #[] #[.pointer (some ⟨w.heap.size + 1, 0, none⟩)], .func (.func 48) #[] #[.pointer (some ⟨w.heap.size + 1, 0, none⟩)], .func (.func 49) #[] #[.pointer (some ⟨w.heap.size + 1, 0, none⟩)]] 43))
  simp only [World.size_alloc] at this
  simp [this]
end Go.Proofs.YtaiikjgoofefgaaGreatDoor
