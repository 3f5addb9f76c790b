/- The law BitimeAreas: its walk. -/
import Derived.Test.YtiefdlfninhbgaaGreatDoorAw
import Derived.Test.YtiefdlfninhbgaaGreatDoorLM
import Derived.Test.YtiefdlfninhbgaaGreatDoorT8
import Derived.Test.YtiefdlfninhbgaaGreatDoorRB
import Derived.Deep.RegionHeld3
import Derived.Deep.DeepCutAuto
namespace Go.Proofs.YtiefdlfninhbgaaGreatDoor
open Go.RowKit Go.Shelf

/-- A text's cell. -/
def X1 (l : List UInt8) : List Value := [.string ⟨l.toArray⟩]
theorem X1_len (l : List UInt8) : (X1 l).length = 1 := rfl
theorem X1_one (l : List UInt8) : ∀ u ∈ X1 l, u.oneCell' = true := by simp [X1, Value.oneCell']
theorem elemTxts : ElemT Tryz.prog 48 29 1 16 := elemT_of Tryz.underlying48 (by kernel_rfl) (by decide) (by decide)
theorem map_take_succ {α β : Type} (f : α → β) (l : List α) (i : Nat) (x : α) (h : l[i]? = some x) : (l.map f).take (i + 1) = (l.map f).take i ++ [f x] := by
  obtain ⟨hi, rfl⟩ := List.getElem?_eq_some_iff.1 h
  rw [← List.map_take, ← List.map_take, List.take_succ_eq_append_getElem hi, List.map_append]
  rfl
theorem Sl.txt {w : World} {B : Nat} {A : Option Addr} {n : Nat} {xs : List (List UInt8)} {i : Nat} (h : Sl X1 1 w B A n xs) (hi : i < n) :
    ∃ b off x, A = some ⟨b, off, none⟩ ∧ b < B ∧ xs[i]? = some x ∧ w.cell? ⟨b, off + i, none⟩ = some (.string ⟨x.toArray⟩) := by
  obtain ⟨b, off, x, hA, hb, hx, hc⟩ := h.at_ hi
  exact ⟨b, off, x, hA, hb, hx, by have := hc 0 _ rfl; simpa using this⟩
/-- The five texts in memory. -/
theorem five_txts {w : World} {B : Nat} {A : Option Addr} {t0 t1 t2 t3 t4 : List UInt8} (h : Sl X1 1 w B A 5 [t0, t1, t2, t3, t4]) :
    ∃ b off, A = some ⟨b, off, none⟩ ∧ b < B ∧ w.cell? ⟨b, off, none⟩ = some (.string ⟨t0.toArray⟩) ∧ w.cell? ⟨b, off + 1, none⟩ = some (.string ⟨t1.toArray⟩) ∧ w.cell? ⟨b, off + 2, none⟩ = some (.string ⟨t2.toArray⟩) ∧ w.cell? ⟨b, off + 3, none⟩ = some (.string ⟨t3.toArray⟩) ∧ w.cell? ⟨b, off + 4, none⟩ = some (.string ⟨t4.toArray⟩) := by
  obtain ⟨b, off, e, hb, hc⟩ := h.2 (by omega)
  refine ⟨b, off, e, hb, ?_, ?_, ?_, ?_, ?_⟩
  · have := hc 0 t0 rfl 0 _ rfl; simpa using this
  · have := hc 1 t1 rfl 0 _ rfl; simpa using this
  · have := hc 2 t2 rfl 0 _ rfl; simpa using this
  · have := hc 3 t3 rfl 0 _ rfl; simpa using this
  · have := hc 4 t4 rfl 0 _ rfl; simpa using this
set_option maxRecDepth 100000 in
set_option maxHeartbeats 20000000 in
theorem areas_law (Aa Ab : Option Addr) (na nb ca cb : Nat) (xs ys : List Reg) (w : World) (hp : Pow w) (ha : Rgs w w.heap.size Aa na xs) (hb : Rgs w w.heap.size Ab nb ys) (hna : na ≤ maxLen) (hnb : nb ≤ maxLen) :
    Calls Tryz.prog 8 #[.slice Aa na ca, .slice Ab nb cb] w fun e w' => e = .returned (.bool true) ∧ Below w.heap.size w w' := by
  have hL0 := Sl.lit (enc := SlV.vals) (k := 1) w #[.slice Aa na ca, .slice Ab nb cb] 22 [⟨Aa, na, ca⟩, ⟨Ab, nb, cb⟩] rfl SlV.vals_len
  have hb0 : Below w.heap.size w (w.alloc (.cells #[.slice Aa na ca, .slice Ab nb cb] 22)) := (Below.refl _ _).alloc (Nat.le_refl _) _
  have hRA : RgsAll (w.alloc (.cells #[.slice Aa na ca, .slice Ab nb cb] 22)) (w.alloc (.cells #[.slice Aa na ca, .slice Ab nb cb] 22)).heap.size [⟨Aa, na, ca⟩, ⟨Ab, nb, cb⟩] [xs, ys] := by
    refine ⟨rfl, fun i r x hr hx => ?_⟩
    match i, hr, hx with
    | 0, hr, hx => simp at hr hx; subst hr; subst hx; exact ha.here hb0
    | 1, hr, hx => simp at hr hx; subst hr; subst hx; exact hb.here hb0
    | n + 2, hr, hx => simp at hr
  have HLN := Lib.hid (lnormal_any (some ⟨w.heap.size, 0, none⟩) 2 2 [⟨Aa, na, ca⟩, ⟨Ab, nb, cb⟩] [xs, ys] _ (by simpa using hL0) hRA (by omega) (fun r hr => by simp at hr; rcases hr with rfl | rfl <;> assumption))
  have HB0 := Lib.hid hb0; have HPW := Lib.hid hp
  clear hL0 hRA ha hb hb0 hna hnb hp
  go_enter Tryz.func8, Tryz.ntmps8
  go_wp2_with fail
  generalize w.alloc (.cells #[.slice Aa na ca, .slice Ab nb cb] 22) = W0 at *
  refine HLN.out.mono ?_
  rintro e w1 ⟨hb1, ⟨hno, rfl⟩ | ⟨hyes, A', c', rs, rfl, hoR, hoA⟩⟩
  · clear hno HLN
    have hb01 := HB0.out.trans (hb1.mono HB0.out.size)
    go_wp2_with (go_at_call 10; refine (awake_any _).mono ?_; rintro e w2 ⟨rfl, hb2⟩)
    go_ret
    exact ⟨rfl, hb01.trans (hb2.mono hb01.size)⟩
  · clear HLN
    simp only [List.all_cons, List.all_nil, Bool.and_true, Bool.and_eq_true] at hyes
    obtain ⟨hx1, hx2, hx3⟩ := okN_ok hyes.1
    obtain ⟨hy1, hy2, hy3⟩ := okN_ok hyes.2
    have hLl : (xs ++ ys).length ≤ 20 := by rw [List.length_append]; omega
    have hLv : ∀ r ∈ xs ++ ys, checkOne r = 0 := fun r hr => by rcases List.mem_append.1 hr with h | h; exact hx3 r h; exact hy3 r h
    have n0 := NS.norm (xs := xs) hLl hLv (fun r hr => by simp [hr]) hx1
    have n1 := NS.norm (xs := ys) hLl hLv (fun r hr => by simp [hr]) hy1
    have hrl : rs.length = 2 := by have := hoR.facts.1; omega
    obtain ⟨r0, r1, rfl⟩ : ∃ r0 r1, rs = [r0, r1] := by
      match rs, hrl with
      | [a, b], _ => exact ⟨a, b, rfl⟩
    have ho0 : Own Reg.vals 4 35 w1 W0.heap.size (.slice r0.A r0.n r0.c) (pNormL xs).1 := hoA.2 0 r0 _ rfl rfl
    have ho1 : Own Reg.vals 4 35 w1 W0.heap.size (.slice r1.A r1.n r1.c) (pNormL ys).1 := hoA.2 1 r1 _ rfl rfl
    generalize (pNormL xs).1 = l0 at *
    generalize (pNormL ys).1 = l1 at *
    obtain ⟨u, eu, nu⟩ := NS.oper (cond := fun x y => x || y) hLl hLv rfl n0 n1
    obtain ⟨c, ec, nc⟩ := NS.oper (cond := fun x y => x && y) hLl hLv rfl n0 n1
    obtain ⟨m, em, nm⟩ := NS.oper (cond := fun x y => x && !y) hLl hLv rfl n0 n1
    obtain ⟨g, o1, s0, hA', hg, hs0, d0⟩ := (hoR.sl SlV.vals_len).slv (i := 0) (by omega)
    obtain ⟨g', o1', s1, hA2, _, hs1, d1⟩ := (hoR.sl SlV.vals_len).slv (i := 1) (by omega)
    subst hA'
    injection hA2 with hA2
    injection hA2 with e1 e2
    subst e1; subst e2
    simp at hs0 hs1
    subst hs0; subst hs1
    obtain ⟨hl0, hc0, _⟩ := ho0.facts
    obtain ⟨hl1, hc1, _⟩ := ho1.facts
    have z0 := n0.1.small hLl n0.2
    have z1 := n1.1.small hLl n1.2
    have b0 : r0.n ≤ 400 := by omega
    have b1 : r1.n ≤ 400 := by omega
    have q0 : r0.n ≤ r0.c := by omega
    have q1 : r1.n ≤ r1.c := by omega
    have HS0 := Lib.hid (ho0.sl Reg.vals_len); have HS1 := Lib.hid (ho1.sl Reg.vals_len)
    have HLAW := Lib.hid (area_laws hLv n0 n1 nu nc nm)
    have HK0 := Lib.hid (n0.areaOk hLl hLv); have HK1 := Lib.hid (n1.areaOk hLl hLv)
    have HKu := Lib.hid (nu.areaOk hLl hLv); have HKc := Lib.hid (nc.areaOk hLl hLv); have HKm := Lib.hid (nm.areaOk hLl hLv)
    have zu := nu.1.small hLl nu.2; have zm := nm.1.small hLl nm.2; have zc := nc.1.small hLl nc.2
    have hb01 := HB0.out.trans (hb1.mono HB0.out.size)
    have HPW1 := Lib.hid (HPW.out.here hb01)
    clear nu nm nc n0 n1 hLl hLv hx1 hx2 hx3 hy1 hy2 hy3 hyes hrl hoA ho0 ho1 hl0 hl1 hc0 hc1 z0 z1 hoR HB0 hb1 HPW
    have HU := Lib.hid (fun (W : World) (h : Below w1.heap.size w1 W) => Unite_any r0.A r1.A r0.n r1.n r0.c r1.c l0 l1 W (HS0.out.here h) (HS1.out.here h) (by omega) (by omega))
    have HM := Lib.hid (fun (W : World) (h : Below w1.heap.size w1 W) => Minus_any r0.A r1.A r0.n r1.n r0.c r1.c l0 l1 W (HS0.out.here h) (HS1.out.here h) (by omega) (by omega))
    have HK := Lib.hid (fun (W : World) (h : Below w1.heap.size w1 W) => Common_any r0.A r1.A r0.n r1.n r0.c r1.c l0 l1 W (HS0.out.here h) (HS1.out.here h) (by omega) (by omega))
    rw [eu] at HU
    rw [em] at HM
    rw [ec] at HK
    clear eu em ec
    simp only [Nat.add_zero] at d0
    go_wp2_with fail
    go_cut [7, 8] (fun s t wc => ∃ A4 c4, s = .slice A4 u.length c4 ∧ t = .int .i64 0 ∧ Hid (Own Reg.vals 4 35 wc w1.heap.size (.slice A4 u.length c4) u) ∧ Below w1.heap.size w1 wc)
    case first =>
      go_region_with (go_at_call 20; refine (HU.out _ (Below.refl _ w1).drew).mono ?_; rintro e w4 ⟨A4, c4, rfl, ho4, hb4⟩)
      all_goals
        go_wp2_with fail
        go_meet
        exact ⟨A4, c4, rfl, rfl, ho4, (Below.refl _ w1).drew.trans hb4⟩
    case rest =>
    obtain ⟨A4, c4, rfl, rfl, HO4, hb14⟩ := hcut
    clear HU
    obtain ⟨w4, rfl⟩ : ∃ W, W = wc := ⟨_, rfl⟩
    have d04 := (hb14.cell (p := ⟨g, o1, none⟩) hg).trans d0
    have d14 := (hb14.cell (p := ⟨g, o1 + 1, none⟩) hg).trans d1
    go_wp2_with fail
    go_cut [9, 10] (fun s t wc => ∃ A5 c5, s = .slice A5 c.length c5 ∧ t = .int .i64 0 ∧ Hid (Own Reg.vals 4 35 wc w1.heap.size (.slice A5 c.length c5) c) ∧ Hid (Own Reg.vals 4 35 wc w1.heap.size (.slice A4 u.length c4) u) ∧ Below w1.heap.size w1 wc)
    case first =>
      go_region_with (go_at_call 24; refine (HK.out _ hb14.drew).mono ?_; rintro e w5 ⟨A5, c5, rfl, ho5, hb5⟩)
      all_goals
        go_wp2_with fail
        go_meet
        exact ⟨A5, c5, rfl, rfl, ho5.base_ hb14.size, HO4.out.drew.below hb5, hb14.drew.trans (hb5.mono hb14.size)⟩
    case rest =>
    clear HO4
    obtain ⟨A5, c5, rfl, rfl, HO5, HO4, hb15⟩ := hcut
    clear d04 d14 HK hb14
    obtain ⟨w5, rfl⟩ : ∃ W, W = wc := ⟨_, rfl⟩
    have d05 := (hb15.cell (p := ⟨g, o1, none⟩) hg).trans d0
    have d15 := (hb15.cell (p := ⟨g, o1 + 1, none⟩) hg).trans d1
    go_wp2_with fail
    go_cut [11, 12] (fun s t wc => ∃ A6 c6, s = .slice A6 m.length c6 ∧ t = .int .i64 0 ∧ Hid (Own Reg.vals 4 35 wc w1.heap.size (.slice A6 m.length c6) m) ∧ Hid (Own Reg.vals 4 35 wc w1.heap.size (.slice A5 c.length c5) c) ∧ Hid (Own Reg.vals 4 35 wc w1.heap.size (.slice A4 u.length c4) u) ∧ Below w1.heap.size w1 wc)
    case first =>
      go_region_with (go_at_call 22; refine (HM.out _ hb15.drew).mono ?_; rintro e w6 ⟨A6, c6, rfl, ho6, hb6⟩)
      all_goals
        go_wp2_with fail
        go_meet
        exact ⟨A6, c6, rfl, rfl, ho6.base_ hb15.size, HO5.out.drew.below hb6, HO4.out.drew.below hb6, hb15.drew.trans (hb6.mono hb15.size)⟩
    case rest =>
    clear HO4 HO5
    obtain ⟨A6, c6, rfl, rfl, HO6, HO5, HO4, hb16⟩ := hcut
    clear d05 d15 HM hb15
    obtain ⟨w8, rfl⟩ : ∃ W, W = wc := ⟨_, rfl⟩
    have d06 := (hb16.cell (p := ⟨g, o1, none⟩) hg).trans d0
    have d16 := (hb16.cell (p := ⟨g, o1 + 1, none⟩) hg).trans d1
    have HS06 := Lib.hid (HS0.out.here hb16); have HS16 := Lib.hid (HS1.out.here hb16)
    go_wp2_with fail
    go_cut [82, 83, 84] (fun s t v wc => s = .slice (some ⟨w8.heap.size, 0, none⟩) 5 5 ∧ t = .int .i64 5 ∧ v = .int .i64 0 ∧ wc = w8.drew.alloc (.cells #[.slice r0.A r0.n r0.c, .slice r1.A r1.n r1.c, .slice A4 u.length c4, .slice A5 c.length c5, .slice A6 m.length c6] 22))
    case first =>
      go_region_with (fail)
      all_goals
        go_wp2_with fail
        go_meet
        exact ⟨rfl, rfl, rfl, rfl⟩
    case rest =>
    obtain ⟨rfl, rfl, rfl, hwc⟩ := hcut
    have hb89 : Below w8.heap.size w8 wc := by rw [hwc]; exact (Below.refl _ _).drew.alloc (Nat.le_refl _) _
    have hL5 : Sl SlV.vals 1 wc wc.heap.size (some ⟨w8.heap.size, 0, none⟩) 5 [r0, r1, ⟨A4, u.length, c4⟩, ⟨A5, c.length, c5⟩, ⟨A6, m.length, c6⟩] := by
      have := Sl.lit (enc := SlV.vals) (k := 1) w8.drew #[.slice r0.A r0.n r0.c, .slice r1.A r1.n r1.c, .slice A4 u.length c4, .slice A5 c.length c5, .slice A6 m.length c6] 22 [r0, r1, ⟨A4, u.length, c4⟩, ⟨A5, c.length, c5⟩, ⟨A6, m.length, c6⟩] rfl SlV.vals_len
      rw [hwc]
      simpa using this
    clear hwc
    have hcu : u.length ≤ c4 := by obtain ⟨_, h, _⟩ := HO4.out.facts; exact h
    have hcc : c.length ≤ c5 := by obtain ⟨_, h, _⟩ := HO5.out.facts; exact h
    have hcm : m.length ≤ c6 := by obtain ⟨_, h, _⟩ := HO6.out.facts; exact h
    have HALL := Lib.hid (show ∀ (i : Nat) (r : SlV) (zs : List Reg), [r0, r1, ⟨A4, u.length, c4⟩, ⟨A5, c.length, c5⟩, ⟨A6, m.length, c6⟩][i]? = some r → [l0, l1, u, c, m][i]? = some zs → Rgs wc wc.heap.size r.A r.n zs ∧ AreaOk zs ∧ r.n ≤ 400 ∧ r.n ≤ r.c from fun i r zs hr hz => by
      match i, hr, hz with
      | 0, hr, hz => simp at hr hz; subst hr; subst hz; exact ⟨HS06.out.here hb89, HK0.out, b0, q0⟩
      | 1, hr, hz => simp at hr hz; subst hr; subst hz; exact ⟨HS16.out.here hb89, HK1.out, b1, q1⟩
      | 2, hr, hz => simp at hr hz; subst hr; subst hz; exact ⟨(HO4.out.below hb89).sl Reg.vals_len, HKu.out, zu, hcu⟩
      | 3, hr, hz => simp at hr hz; subst hr; subst hz; exact ⟨(HO5.out.below hb89).sl Reg.vals_len, HKc.out, zc, hcc⟩
      | 4, hr, hz => simp at hr hz; subst hr; subst hz; exact ⟨(HO6.out.below hb89).sl Reg.vals_len, HKm.out, zm, hcm⟩
      | n + 5, hr, hz => simp at hr)
    generalize [r0, r1, (⟨A4, u.length, c4⟩ : SlV), ⟨A5, c.length, c5⟩, ⟨A6, m.length, c6⟩] = rs5 at hL5 HALL
    have HL5 := Lib.hid hL5; clear hL5
    have hb19 := hb16.trans (hb89.mono hb16.size)
    have HPW9 := Lib.hid (HPW1.out.here hb19)
    clear d06 d16 d0 d1 HO4 HO5 HO6 HS0 HS1 HS06 HS16 HKu HKc HKm HK0 HK1 hb16 hb89 HPW1 zu zm zc b0 b1 q0 q1 hcu hcc hcm hg
    have HB9 := Lib.hid (hb01.trans (hb19.mono hb01.size)); clear hb01 hb19
    obtain ⟨w9, rfl⟩ : ∃ W, W = wc := ⟨_, rfl⟩
    go_wp2_with fail
    have HTL := Lib.hid (show ∀ (i : Nat) (zs : List Reg), [l0, l1, u, c, m][i]? = some zs → ([l0, l1, u, c, m].map fun zs => ofL (areaL zs)).take (i + 1) = ([l0, l1, u, c, m].map fun zs => ofL (areaL zs)).take i ++ [ofL (areaL zs)] from fun i zs h => map_take_succ (fun zs => ofL (areaL zs)) _ i zs h)
    have HTA := Lib.hid (show ([l0, l1, u, c, m].map fun zs => ofL (areaL zs)) = [ofL (areaL l0), ofL (areaL l1), ofL (areaL u), ofL (areaL c), ofL (areaL m)] from rfl)
    generalize ([l0, l1, u, c, m].map fun zs => ofL (areaL zs)) = tx at HTL HTA
    obtain ⟨v0, v0'⟩ := (HALL.out 0 _ l0 (List.getElem?_eq_getElem (by rw [← HL5.out.1]; omega)) rfl).2.1.bd
    obtain ⟨v1, v1'⟩ := (HALL.out 1 _ l1 (List.getElem?_eq_getElem (by rw [← HL5.out.1]; omega)) rfl).2.1.bd
    obtain ⟨v2, v2'⟩ := (HALL.out 2 _ u (List.getElem?_eq_getElem (by rw [← HL5.out.1]; omega)) rfl).2.1.bd
    obtain ⟨v3, v3'⟩ := (HALL.out 3 _ c (List.getElem?_eq_getElem (by rw [← HL5.out.1]; omega)) rfl).2.1.bd
    obtain ⟨v4, v4'⟩ := (HALL.out 4 _ m (List.getElem?_eq_getElem (by rw [← HL5.out.1]; omega)) rfl).2.1.bd
    have HA1 := Lib.hid (fun (W : World) (h : Below w9.heap.size w9 W) => Add_any (ofL (areaL l0)) (ofL (areaL l1)) W (HPW9.out.here h) (by have := ofL_len v0 (by omega); omega) (by have := ofL_len v1 (by omega); omega))
    have HA2 := Lib.hid (fun (W : World) (h : Below w9.heap.size w9 W) => Add_any (ofL (areaL u)) (ofL (areaL c)) W (HPW9.out.here h) (by have := ofL_len v2 (by omega); omega) (by have := ofL_len v3 (by omega); omega))
    have HSB := Lib.hid (fun (W : World) (h : Below w9.heap.size w9 W) => Sub_any (ofL (areaL l0)) (ofL (areaL c)) W (HPW9.out.here h) (by have := ofL_len v0 (by omega); omega) (by have := ofL_len v3 (by omega); omega))
    rw [val_ofL v0, val_ofL v1, HLAW.out.1] at HA1
    rw [val_ofL v2, val_ofL v3] at HA2
    rw [val_ofL v0, val_ofL v3, HLAW.out.2, ← ofL_txt' v4] at HSB
    clear v0 v0' v1 v1' v2 v2' v3 v3' v4 v4'
    unfold StrPost S at HA1 HA2 HSB
    have HFV := Lib.hid (show ∀ i, i < 5 → ∃ zs, [l0, l1, u, c, m][i]? = some zs from fun i hi => ⟨_, List.getElem?_eq_getElem (by simpa using hi)⟩)
    have HKS := Lib.hid (show ∀ (i : Nat) (zs : List Reg), [l0, l1, u, c, m][i]? = some zs → [l0, l1, u, c, m][i]? = some zs from fun _ _ h => h)
    go_loopw [13, 15, 16, 17, 18, 19, 20, 22, 84] (fun v _ _ _ _ _ _ _ i wr => ∃ (j co : Nat) (Ao : Option Addr), j ≤ 5 ∧ i = .int .i64 j ∧ v = .slice Ao j co ∧ Hid (Own X1 1 29 wr w9.heap.size (.slice Ao j co) (tx.take j)) ∧ Below w9.heap.size w9 wr) (fun _ _ _ _ _ _ _ _ i _ => 5 - (intOf i).toNat)
    case atStart => exact ⟨0, 0, none, by omega, rfl, rfl, Own.nil, Below.refl _ _⟩
    case round =>
      obtain ⟨j, co, Ao, hj, rfl, rfl, HOT, hbj⟩ := hrel
      obtain ⟨wj, rfl⟩ : ∃ W, W = wr := ⟨_, rfl⟩
      by_cases hlt : j < 5
      · obtain ⟨gb, go, r, hgA, _, hrj, dj⟩ := (HL5.out.below hbj).slv hlt
        obtain ⟨zs, hzj⟩ := HFV.out j hlt
        obtain ⟨hzs, hok, hrn, hrc⟩ := HALL.out j r zs hrj hzj
        injection hgA with hgA
        injection hgA with e1 e2
        subst e1; subst e2
        simp only [Nat.zero_add] at dj
        have HST := Lib.hid (HTL.out j zs hzj)
        have HOK := Lib.hid hok
        have HZ := Lib.hid (hzs.here hbj)
        have HAR := Lib.hid (Area_full r.A r.n r.c zs wj (HPW9.out.here hbj) HZ.out (by omega))
        rw [show pAreaL zs = (ofL (areaL zs), 0) by unfold pAreaL; rw [if_pos hok.1]] at HAR
        obtain ⟨bd0, bd1⟩ := hok.bd
        unfold S at HAR
        simp only at HAR
        clear hrj hzj hzs hok
        go_wp2_with fail
        refine HAR.out.mono ?_
        rintro e w10 ⟨rfl, hb10⟩
        have hbT := hbj.trans (hb10.mono hbj.size)
        have HZ10 := Lib.hid (HZ.out.here hb10)
        clear dj HAR HZ
        go_wp2_with fail
        go_loopw [18, 19, 20, 22, 95] (fun sm _ _ _ i wr => ∃ (k : Nat) (t : Int), k ≤ r.n ∧ i = .int .i64 k ∧ sm = .int .i64 t ∧ 0 ≤ t ∧ t ≤ 44000000000 ∧ Hid (t = areaL (zs.take k)) ∧ Below w10.heap.size w10 wr) (fun _ _ _ _ i _ => r.n - (intOf i).toNat)
        case atStart => exact ⟨0, 0, Nat.zero_le _, rfl, rfl, by omega, by omega, by show _ = _; rfl, Below.refl _ _⟩
        case round =>
          obtain ⟨k, t, hk, rfl, rfl, ht0, ht1, HT, hbk⟩ := hrel
          obtain ⟨wk, rfl⟩ : ∃ W, W = wr := ⟨_, rfl⟩
          by_cases hkn : k < r.n
          · as_aux_lemma =>
            obtain ⟨b, off, q, hrA, hbl, hqk, e0, e1, e2, e3⟩ := (HZ10.out.below hbk).reg hkn
            have HAS := Lib.hid (areaL_step hqk)
            have HQK := Lib.hid hqk
            obtain ⟨t0, t1⟩ := HOK.out.part (k + 1)
            rw [HAS.out, ← HT.out] at t0 t1
            obtain ⟨_, hval, _⟩ := pCheckL_ok HOK.out.1
            have hq := hval q (List.mem_of_getElem? hqk)
            obtain ⟨m1, m2⟩ := regArea_bd hq
            obtain ⟨c1, c2, c3, c4', c5', c6'⟩ := checkOne_ok hq
            have HT2 := Lib.hid (show t + regArea q = areaL (zs.take (k + 1)) by rw [HAS.out, ← HT.out])
            unfold regArea at t0 t1 m1 m2 HT2
            clear hqk hval hq HAS HT
            have hkc : k ≤ r.c := by omega
            rw [hrA]
            have HRA := Lib.hid hrA; clear hrA
            have HNB := Lib.hid (RegB.new wk q)
            have hbW := (Below.refl wk.heap.size wk).alloc (Nat.le_refl _) (.cells #[.int .i64 q.fr, .int .i64 q.to, .int .i64 q.si, .int .i64 q.un] 35)
            have hszW : wk.heap.size < (wk.alloc (.cells #[.int .i64 q.fr, .int .i64 q.to, .int .i64 q.si, .int .i64 q.un] 35)).heap.size := by simp
            go_wp2_with fail
            generalize wk.alloc (.cells #[.int .i64 q.fr, .int .i64 q.to, .int .i64 q.si, .int .i64 q.un] 35) = W3 at *
            generalize (q.to - q.fr) * (q.un - q.si) = ar at *
            go_loopw [22, 117] (fun _ i wr => ∃ (p : Nat), p ≤ k ∧ i = .int .i64 p ∧ Below W3.heap.size W3 wr) (fun _ i _ => k - (intOf i).toNat)
            case atStart => exact ⟨0, Nat.zero_le _, rfl, Below.refl _ _⟩
            case round =>
              obtain ⟨p, hp, rfl, hbp⟩ := hrel
              by_cases hpk : p < k
              · have hbkp := hbk.trans ((hbW.trans (hbp.mono hbW.size)).mono hbk.size)
                obtain ⟨b', off', s, hsA, hbl', hsp, v0, v1, v2, v3⟩ := (HZ10.out.below hbkp).reg (i := p) (by omega)
                rw [HRA.out] at hsA
                injection hsA with hsA
                injection hsA with i1 i2
                subst i1; subst i2
                obtain ⟨x0, x1, x2, x3⟩ := (HNB.out.here hbp).cells
                have hsz3 : wk.heap.size < wr.heap.size := Nat.lt_of_lt_of_le hszW hbp.size
                have hap := HOK.out.apart HQK.out hsp hpk
                clear hsp
                have HBN := Lib.hid (hbp.alloc hbp.size (.cells #[.int .i64 s.fr, .int .i64 s.to, .int .i64 s.si, .int .i64 s.un] 35))
                have fin : ∀ _ : True, True := fun _ => trivial
                clear fin
                by_cases g1 : q.fr < s.to
                · by_cases g2 : s.fr < q.to
                  · have g3 : ¬ q.si < s.un := by omega
                    have g3' : decide (q.si < s.un) = false := by simpa using g3
                    clear hap
                    go_wp2_with fail
                    go_roundw
                    case rel => exact ⟨p + 1, by omega, by go_num, HBN.out⟩
                    case measure => simp [intOf]; omega
                  · have g2' : decide (s.fr < q.to) = false := by simpa using g2
                    clear hap
                    go_wp2_with fail
                    go_roundw
                    case rel => exact ⟨p + 1, by omega, by go_num, HBN.out⟩
                    case measure => simp [intOf]; omega
                · have g1' : decide (q.fr < s.to) = false := by simpa using g1
                  clear hap
                  go_wp2_with fail
                  go_roundw
                  case rel => exact ⟨p + 1, by omega, by go_num, HBN.out⟩
                  case measure => simp [intOf]; omega
              · have hbkp := hbk.trans ((hbW.trans (hbp.mono hbW.size)).mono hbk.size)
                go_wp2_with fail
                go_roundw
                case rel => exact ⟨k + 1, t + ar, by omega, by go_num, rfl, by omega, by omega, HT2, hbkp⟩
                case measure => simp [intOf]; omega
          · as_aux_lemma =>
            have HTE := Lib.hid (show t = areaL zs by rw [HT.out, List.take_of_length_le (by have := HZ10.out.1; omega)])
            have hbk2 := hbT.trans (hbk.mono hbT.size)
            have HOF := Lib.hid (of_any t (by omega) (by omega) wk (HPW9.out.here hbk2))
            rw [← HTE.out] at HST ⊢
            unfold S at HOF
            generalize ofL t = txt at *
            clear HT
            go_wp2_with fail
            refine HOF.out.mono ?_
            rintro e w11 ⟨rfl, hb11⟩
            have hb9 := hbk2.trans (hb11.mono hbk2.size)
            have HOT2 := Lib.hid (((HOT.out.below hb10).below hbk).below hb11)
            have HLT := Lib.hid (show (tx.take j).length = j by rw [← HOT.out.facts.1])
            have HFA := Lib.hid HOT.out.facts.2.2.2
            go_wp2_with (at_builtin; refine wpList_app _ rfl (.tmp 157) (.tmp 159) _ rfl elemTxts X1_len X1_one (base := w9.heap.size) (.slice Ao j co) (tx.take j) rfl (HOT2.out.alloc _) _ _ 1 1 [txt] rfl (Sl.lit w11 #[.string ⟨txt.toArray⟩] 29 [txt] rfl X1_len) (by rw [HLT.out]; omega) (by have := hb9.size; simp; omega) ?_; intro A12 c12 w12 ho12 hg12 hat12
                         rw [HLT.out] at ho12 ⊢)
            have hb12 : Below w9.heap.size w9 w12 := below_grown (hb9.alloc hb9.size _) hg12 (by have := hb9.size; simp; omega) (fun g' e => by
              rcases HFA.out with ⟨rfl, _⟩ | ⟨g, rfl, hg1, hg2⟩
              · simp [Value.ownBlock] at e
              · simp [Value.ownBlock] at e; omega)
            have HO12 := Lib.hid ho12; clear ho12 hg12 hat12
            go_roundw
            case rel => exact ⟨j + 1, c12, A12, by omega, by go_num, rfl, by show Own _ _ _ _ _ _ _; rw [HST.out]; exact HO12.out, hb12⟩
            case measure => simp [intOf]; omega
      · obtain rfl : j = 5 := by omega
        have hO5 := HOT.out
        rw [HTA.out] at hO5
        have hS5 := hO5.sl X1_len
        obtain ⟨gb, go, hgA, hgl, t0, t1, t2, t3, t4⟩ := five_txts hS5
        subst hgA
        generalize ofL (areaL l0) = x0 at *
        generalize ofL (areaL l1) = x1 at *
        generalize ofL (areaL u) = x2 at *
        generalize ofL (areaL c) = x3 at *
        generalize ofL (areaL m) = x4 at *
        generalize txtL (areaL u + areaL c) = sA at *
        clear HTL HFV HKS HALL HL5 HLAW hO5 hS5 HTA
        have KP := Lib.hid (show ∀ W, Below wj.heap.size wj W → W.cell? ⟨gb, go, none⟩ = some (.string ⟨x0.toArray⟩) ∧ W.cell? ⟨gb, go + 1, none⟩ = some (.string ⟨x1.toArray⟩) ∧ W.cell? ⟨gb, go + 2, none⟩ = some (.string ⟨x2.toArray⟩) ∧ W.cell? ⟨gb, go + 3, none⟩ = some (.string ⟨x3.toArray⟩) ∧ W.cell? ⟨gb, go + 4, none⟩ = some (.string ⟨x4.toArray⟩) from
          fun W h => ⟨(h.cell (p := ⟨gb, go, none⟩) hgl).trans t0, (h.cell (p := ⟨gb, go + 1, none⟩) hgl).trans t1, (h.cell (p := ⟨gb, go + 2, none⟩) hgl).trans t2, (h.cell (p := ⟨gb, go + 3, none⟩) hgl).trans t3, (h.cell (p := ⟨gb, go + 4, none⟩) hgl).trans t4⟩)
        go_wp2_with fail
        go_region_held3 (fun w' => w'.cell? ⟨gb, go, none⟩ = some (.string ⟨x0.toArray⟩) ∧ w'.cell? ⟨gb, go + 1, none⟩ = some (.string ⟨x1.toArray⟩) ∧ w'.cell? ⟨gb, go + 2, none⟩ = some (.string ⟨x2.toArray⟩) ∧ w'.cell? ⟨gb, go + 3, none⟩ = some (.string ⟨x3.toArray⟩) ∧ w'.cell? ⟨gb, go + 4, none⟩ = some (.string ⟨x4.toArray⟩))
          (first
            | go_keep
            | exact KP.out _ K1.out
            | exact KP.out _ K2.out
            | exact KP.out _ K3.out
            | exact KP.out _ K4.out)
          (first
            | (go_at_call_of 32 (Value.string ⟨x1.toArray⟩); refine (HA1.out _ hbj.drew).mono ?_; rintro e w2 ⟨rfl, hb2⟩; have K1 := Lib.hid ((Below.refl _ wj).drew.trans hb2); have J1 := Lib.hid (hbj.trans (K1.out.mono hbj.size)))
            | (go_at_call_of 32 (Value.string ⟨x2.toArray⟩); refine (HA2.out _ J1.out).mono ?_; rintro e w3 ⟨rfl, hb3⟩; have K2 := Lib.hid (K1.out.trans (hb3.mono K1.out.size)); have J2 := Lib.hid (hbj.trans (K2.out.mono hbj.size)))
            | (go_at_call 33; refine (HSB.out _ J2.out).mono ?_; rintro e w4 ⟨rfl, hb4⟩; have K3 := Lib.hid (K2.out.trans (hb4.mono K2.out.size)); have J3 := Lib.hid (hbj.trans (K3.out.mono hbj.size)))
            | (go_at_call 10; refine (awake_any _).mono ?_; rintro e w5 ⟨rfl, hb5⟩; have K4 := Lib.hid (K3.out.trans (hb5.mono K3.out.size)); have J4 := Lib.hid (hbj.trans (K4.out.mono hbj.size))))
        all_goals
          go_wp2_with fail
          go_ret
          exact ⟨rfl, HB9.out.trans (J4.out.mono HB9.out.size)⟩
end Go.Proofs.YtiefdlfninhbgaaGreatDoor
