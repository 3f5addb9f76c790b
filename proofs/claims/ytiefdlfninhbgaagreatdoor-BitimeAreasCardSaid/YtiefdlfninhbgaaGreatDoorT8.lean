/- For BitimeAreas: texts of areas and their sums. -/
import Derived.Test.YtiefdlfninhbgaaGreatDoorT7
import Derived.Test.YtiefdlfninhbgaaGreatDoorN10
import Derived.Test.YtiefdlfninhbgaaGreatDoorRA
namespace Go.Proofs.YtiefdlfninhbgaaGreatDoor
open Go.RowKit Go.Shelf

theorem digL_digs (m : Nat) : digL (digs m) = (digs m, false) := by
  by_cases h : m = 0
  · subst h; decide +kernel
  · exact canon_digs m h
theorem val_digs (m : Nat) : val (digs m) = m := by
  unfold val
  rw [digL_digs]
  simp [valD_digs]
theorem ofL_txt (m : Nat) : ofL (m : Int) = txtL (m : Int) := by rw [ofL_nat, txtL_nat]
theorem val_ofL {x : Int} (h : 0 ≤ x) : val (ofL x) = x := by
  obtain ⟨m, rfl⟩ := Int.eq_ofNat_of_zero_le h
  rw [ofL_nat, val_digs]
theorem ofL_txt' {x : Int} (h : 0 ≤ x) : ofL x = txtL x := by
  obtain ⟨m, rfl⟩ := Int.eq_ofNat_of_zero_le h
  exact ofL_txt m
theorem ofL_len {x : Int} (h : 0 ≤ x) (h2 : x < 10000000000000000000) : (ofL x).length ≤ 19 := by
  obtain ⟨m, rfl⟩ := Int.eq_ofNat_of_zero_le h
  rw [ofL_nat]
  exact digs_len m (by omega)
/-- Areas of two sets, their union, intersection and difference. -/
theorem area_laws {L : List Reg} {f g : Int → Int → Bool} {a b u c m : List Reg} (hv : ∀ r ∈ L, checkOne r = 0) (ha : NS L f a) (hb : NS L g b) (hu : NS L (fun d n => f d n || g d n) u) (hc : NS L (fun d n => f d n && g d n) c) (hm : NS L (fun d n => f d n && !g d n) m) :
    areaL a + areaL b = areaL u + areaL c ∧ areaL a - areaL c = areaL m := by
  rw [ha.area hv, hb.area hv, hu.area hv, hc.area hv, hm.area hv]
  have h1 := cnt_union f g
  have h2 := cnt_minus f g
  exact ⟨by omega, by omega⟩
/-- What is asked of each list of the five. -/
def AreaOk (zs : List Reg) : Prop := pCheckL zs = 0 ∧ zs.Pairwise Apart
theorem NS.areaOk {L : List Reg} {f : Int → Int → Bool} {o : List Reg} (hl : L.length ≤ 20) (hv : ∀ r ∈ L, checkOne r = 0) (h : NS L f o) : AreaOk o := ⟨h.check hl hv, h.1.apart⟩
theorem AreaOk.bd {zs : List Reg} (h : AreaOk zs) : 0 ≤ areaL zs ∧ areaL zs ≤ 44000000000 := by
  obtain ⟨h1, h2, _⟩ := pCheckL_ok h.1
  obtain ⟨a0, a1⟩ := areaL_bd zs h2
  exact ⟨a0, by omega⟩
theorem AreaOk.apart {zs : List Reg} (h : AreaOk zs) {i k : Nat} {r s : Reg} (hr : zs[i]? = some r) (hs : zs[k]? = some s) (hk : k < i) : s.to ≤ r.fr ∨ s.un ≤ r.si := by
  obtain ⟨hi, rfl⟩ := List.getElem?_eq_some_iff.1 hr
  obtain ⟨hj, rfl⟩ := List.getElem?_eq_some_iff.1 hs
  exact List.pairwise_iff_getElem.1 h.2 k i hj hi hk
theorem AreaOk.part {zs : List Reg} (h : AreaOk zs) (j : Nat) : 0 ≤ areaL (zs.take j) ∧ areaL (zs.take j) ≤ 44000000000 := by
  obtain ⟨h1, h2, _⟩ := pCheckL_ok h.1
  obtain ⟨a0, a1⟩ := areaL_bd (zs.take j) (fun r hr => h2 r (List.mem_of_mem_take hr))
  have : (zs.take j).length ≤ zs.length := List.length_take_le' _ _
  exact ⟨a0, by omega⟩
end Go.Proofs.YtiefdlfninhbgaaGreatDoor
