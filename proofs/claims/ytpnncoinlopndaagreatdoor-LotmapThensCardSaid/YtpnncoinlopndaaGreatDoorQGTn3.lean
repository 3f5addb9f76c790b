/- Merged texts: N9, N10, FR. -/
import Derived.Test.YtpnncoinlopndaaGreatDoorNNqGTn
import Derived.Deep.RegionHeld3
import Derived.Test.YtpnncoinlopndaaGreatDoorQGTn1
namespace Go.Proofs.YtpnncoinlopndaaGreatDoor
open Go.RowKit Go.Shelf
def sv (neg : Bool) (u : Nat) : Int := if neg then -(u : Int) else u
theorem numT_sv (neg : Bool) (u : Nat) : numT neg u = txtL (sv neg u) := rfl
def NumB (w : World) (p : Nat) (neg : Bool) (A : Option Addr) (n c : Nat) : Prop := w.heap[p]? = some (.cells #[.bool neg, .slice A n c] 144 (0, 0))
section
variable {w w' : World} {p q : Nat} {neg : Bool} {A : Option Addr} {n c : Nat}
theorem NumB.lt (h : NumB w p neg A n c) : p < w.heap.size := (Array.getElem?_eq_some_iff.1 h).1
theorem NumB.cells (h : NumB w p neg A n c) : w.cell? ⟨p, 0, none⟩ = some (.bool neg) ∧ w.cell? ⟨p, 1, none⟩ = some (.slice A n c) :=
  ⟨cell_of_row w p 0 _ 144 (0, 0) h, cell_of_row w p 1 _ 144 (0, 0) h⟩
theorem NumB.frozen (h : NumB w p neg A n c) (j : Nat) : w.frozen? ⟨p, j, none⟩ = false := by
  unfold NumB at h
  simp [World.frozen?, h]
theorem NumB.below {N : Nat} (h : NumB w p neg A n c) (hb : Below N w w') (hg : p < N) : NumB w' p neg A n c := (hb.block p hg).trans h
theorem NumB.here (h : NumB w p neg A n c) (hb : Below w.heap.size w w') : NumB w' p neg A n c := h.below hb h.lt
theorem NumB.new (w : World) (neg : Bool) (A : Option Addr) (n c : Nat) : NumB (w.alloc (.cells #[.bool neg, .slice A n c] 144)) w.heap.size neg A n c := heap_alloc_new w _
theorem NumB.far (h : NumB w p neg A n c) {a : Addr} (hp : p ≠ a.block) (u : Value) : NumB (w.setCell a u) p neg A n c := (Below.heap_setCell w a u p hp).trans h
theorem NumB.set_ {neg' : Bool} {A' : Option Addr} {n' c' : Nat} (h : NumB w p neg A n c) : NumB ((w.setCell ⟨p, 0, none⟩ (.bool neg')).setCell ⟨p, 1, none⟩ (.slice A' n' c')) p neg' A' n' c' := by
  unfold NumB at h ⊢
  rw [heap_setCell_same _ p 1 _ 144 _ (heap_setCell_same w p 0 _ 144 _ h)]
  rfl
theorem NumB.alloc (h : NumB w p neg A n c) (o : Obj) : NumB (w.alloc o) p neg A n c := (Below.heap_alloc w o p h.lt).trans h
end
def AddPost (s : Int) (w : World) (e : Ending) (w' : World) : Prop :=
  ∃ ng A n c xs r, e = .returned (.agg #[.bool ng, .slice A n c]) ∧ Own U1 1 166 w' w.heap.size (.slice A n c) xs ∧ Mag xs r ∧ sv ng r = s ∧ Below w.heap.size w w'
set_option maxRecDepth 20000 in
set_option maxHeartbeats 4000000 in
theorem add_any (nx ny : Bool) (A A' : Option Addr) (n m c c' : Nat) (xs ys : List Nat) (u v : Nat) (w : World) (hx : Gr w w.heap.size A n xs) (hy : Gr w w.heap.size A' m ys) (mx : Mag xs u) (my : Mag ys v) (hn : n ≤ 1000000) (hm : m ≤ 1000000) :
    Calls Tryz.prog 120 #[.agg #[.bool nx, .slice A n c], .agg #[.bool ny, .slice A' m c']] w (AddPost (sv nx u + sv ny v) w) := by
  have HPO := Lib.hid (show AddPost (sv nx u + sv ny v) w = fun e w' => ∃ ng A n c xs r, e = .returned (.agg #[.bool ng, .slice A n c]) ∧ Own U1 1 166 w' w.heap.size (.slice A n c) xs ∧ Mag xs r ∧ sv ng r = sv nx u + sv ny v ∧ Below w.heap.size w w' from rfl)
  generalize AddPost (sv nx u + sv ny v) w = post at *
  have hb0 : Below w.heap.size w (((w.alloc (.cells #[.bool nx, .slice A n c] 144)).alloc (.cells #[.bool ny, .slice A' m c'] 144)).alloc (.cells #[.bool false, .slice none 0 0] 144)) :=
    (((Below.refl _ _).alloc (Nat.le_refl _) _).alloc (by simp) _).alloc (by simp; omega) _
  have hN1 := ((NumB.new w nx A n c).alloc (.cells #[.bool ny, .slice A' m c'] 144)).alloc (.cells #[.bool false, .slice none 0 0] 144)
  have hN2 : NumB (((w.alloc (.cells #[.bool nx, .slice A n c] 144)).alloc (.cells #[.bool ny, .slice A' m c'] 144)).alloc (.cells #[.bool false, .slice none 0 0] 144)) (w.heap.size + 1) ny A' m c' := by
    have := (NumB.new (w.alloc (.cells #[.bool nx, .slice A n c] 144)) ny A' m c').alloc (.cells #[.bool false, .slice none 0 0] 144)
    simpa using this
  have hN3 : NumB (((w.alloc (.cells #[.bool nx, .slice A n c] 144)).alloc (.cells #[.bool ny, .slice A' m c'] 144)).alloc (.cells #[.bool false, .slice none 0 0] 144)) (w.heap.size + 1 + 1) false none 0 0 := by
    have := NumB.new ((w.alloc (.cells #[.bool nx, .slice A n c] 144)).alloc (.cells #[.bool ny, .slice A' m c'] 144)) false none 0 0
    simpa using this
  have HX0 := Lib.hid hx; have HY0 := Lib.hid hy
  have HX := Lib.hid (hx.here hb0); have HY := Lib.hid (hy.here hb0); have HMX := Lib.hid mx; have HMY := Lib.hid my
  have HB0 := Lib.hid hb0; have HN1 := Lib.hid hN1; have HN2 := Lib.hid hN2; have HN3 := Lib.hid hN3
  obtain ⟨p0, p1⟩ := hN1.cells
  obtain ⟨q0, q1⟩ := hN2.cells
  clear hx hy mx my hb0 hN1 hN2 hN3
  go_enter Tryz.func120, Tryz.ntmps120
  by_cases hs : nx = ny
  · subst hs
    have hsb : (nx == nx) = true := by simp
    go_upto_region 2 with (fail)
    generalize ((w.alloc (.cells #[.bool nx, .slice A n c] 144)).alloc (.cells #[.bool nx, .slice A' m c'] 144)).alloc (.cells #[.bool false, .slice none 0 0] 144) = W0 at *
    have HPL := Lib.hid (plus_any A A' n m c c' xs ys u v W0.drew HX.out.drew HY.out.drew HMX.out HMY.out hn hm)
    have hbw := HB0.out
    go_region_with (go_at_call 158; refine HPL.out.mono ?_; rintro e w1 ⟨A1, n1, c1, zs, rfl, ho1, mg1, hb1⟩
                    have hbz : Below W0.heap.size W0 w1 := (Below.refl _ W0).drew.trans hb1
                    have r0 := (HN3.out.here hbz).cells.1
                    have r1 := (HN3.out.here hbz).cells.2
                    have f0 := (HN3.out.here hbz).frozen 0
                    have f1 := (HN3.out.here hbz).frozen 1
                    have s0 := (HN1.out.here hbz).cells.1
                    have HO1 := Lib.hid ho1
                    have HG1 := Lib.hid mg1
                    clear ho1 mg1 hb1)
    all_goals
      go_wp2
      refine bodyPost_ret (v := .agg #[.bool nx, .slice A1 n1 c1]) (by simp [results, Tryz.results120, go_sem, r0, r1]) rfl ?_
      rw [HPO.out]
      have hW := HN3.out.lt
      have hne : (Value.slice A1 n1 c1).ownBlock ≠ some (w.heap.size + 1 + 1) := by
        rcases HO1.out.facts.2.2.2 with ⟨rfl, _⟩ | ⟨g, rfl, hg1, hg2⟩
        · simp [Value.ownBlock]
        · simp only [Value.ownBlock]; intro h; injection h with h; simp at hg1; omega
      refine ⟨nx, A1, n1, c1, zs, u + v, rfl, ((HO1.out.far hne _).far hne _).base_ (by simp; omega), HG1.out, by cases nx <;> simp [sv] <;> omega, ?_⟩
      exact ((HB0.out.trans (hbz.mono HB0.out.size)).setCell (by simp only; omega) _).setCell (by simp only; omega) _
  · have hsb : (nx == ny) = false := by cases nx <;> cases ny <;> simp_all
    have HSS := Lib.hid hs; clear hs
    go_wp2_with fail
    generalize ((w.alloc (.cells #[.bool nx, .slice A n c] 144)).alloc (.cells #[.bool ny, .slice A' m c'] 144)).alloc (.cells #[.bool false, .slice none 0 0] 144) = W0 at *
    refine (compare_any A A' n m c c' xs ys u v W0 HX.out HY.out HMX.out HMY.out hn hm).mono ?_
    rintro e w1 ⟨r, rfl, hr1, hr2, _, _, hb1⟩
    have hp1 := (HN1.out.here hb1).cells; have hq1 := (HN2.out.here hb1).cells
    obtain ⟨x0, x1⟩ := hp1
    obtain ⟨y0, y1⟩ := hq1
    have fp0 := (HN1.out.here hb1).frozen 0; have fp1 := (HN1.out.here hb1).frozen 1
    have fq0 := (HN2.out.here hb1).frozen 0; have fq1 := (HN2.out.here hb1).frozen 1
    have HR1 := Lib.hid hr1; clear hr1 hr2
    clear p0 p1 q0 q1
    go_upto_if 23 with (fail)
    go_cut [4] (fun s wc => ∃ (n1 : Bool) (B1 B2 : Option Addr) (l1 l2 d1 d2 : Nat) (gs1 gs2 : List Nat) (a b : Nat), s = .pointer (some ⟨w.heap.size + 1 + 1, 0, none⟩) ∧ Hid (NumB wc w.heap.size n1 B1 l1 d1) ∧ Hid (∃ n2, NumB wc (w.heap.size + 1) n2 B2 l2 d2) ∧ Hid (NumB wc (w.heap.size + 1 + 1) false none 0 0) ∧ Hid (Gr wc wc.heap.size B1 l1 gs1) ∧ Hid (Gr wc wc.heap.size B2 l2 gs2) ∧ Hid (Mag gs1 a) ∧ Hid (Mag gs2 b) ∧ b ≤ a ∧ l1 ≤ 1000000 ∧ Hid (sv n1 (a - b) = sv nx u + sv ny v) ∧ Below w.heap.size w wc)
    case first =>
      by_cases huv : u < v
      · have hrn : r < 0 := HR1.out.2 huv
        go_wp2_with fail
        go_meet
        have hb2 := HB0.out.trans (hb1.mono HB0.out.size)
        have hb4 := (((hb2.setCell (p := ⟨w.heap.size, 0, none⟩) (Nat.le_refl _) (.bool ny)).setCell (p := ⟨w.heap.size, 1, none⟩) (Nat.le_refl _) (.slice A' m c')).setCell (p := ⟨w.heap.size + 1, 0, none⟩) (by simp) (.bool nx)).setCell (p := ⟨w.heap.size + 1, 1, none⟩) (by simp) (.slice A n c)
        refine ⟨ny, A', A, m, n, c', c, ys, xs, v, u, rfl, ?_, ⟨nx, ?_⟩, ?_, HY0.out.here hb4, HX0.out.here hb4, HMY, HMX, by omega, hm, ?_, hb4⟩
        · exact (((HN1.out.here hb1).set_).far (by simp) _).far (by simp) _
        · exact (((HN2.out.here hb1).far (by simp) _).far (by simp) _).set_
        · exact ((((HN3.out.here hb1).far (by simp; omega) _).far (by simp; omega) _).far (by simp) _).far (by simp) _
        · show sv ny (v - u) = sv nx u + sv ny v
          have h1 := HSS.out
          cases nx <;> cases ny <;> simp_all [sv] <;> omega
      · have hrn : ¬ r < 0 := fun h => huv (HR1.out.1 h)
        have hrd : decide (r < 0) = false := by simpa using hrn
        go_wp2_with fail
        go_meet
        exact ⟨nx, A, A', n, m, c, c', xs, ys, u, v, rfl, HN1.out.here hb1, ⟨ny, HN2.out.here hb1⟩, HN3.out.here hb1, HX.out.here hb1, HY.out.here hb1, HMX, HMY, by omega, hn, by
          show sv nx (u - v) = sv nx u + sv ny v
          have h1 := HSS.out
          cases nx <;> cases ny <;> simp_all [sv] <;> omega, HB0.out.trans (hb1.mono HB0.out.size)⟩
    case rest =>
    clear x0 x1 y0 y1 fp0 fp1 fq0 fq1 HN1 HN2 HN3 HX HY hb1 HR1 HX0 HY0 HMX HMY hn hm HB0
    obtain ⟨n1, B1, B2, l1, l2, d1, d2, gs1, gs2, a, b, rfl, HN1, HN2, HN3, HX, HY, HMX, HMY, hba, hl1, HSV, hbc⟩ := hcut
    obtain ⟨W2, rfl⟩ : ∃ W, W = wc := ⟨_, rfl⟩
    obtain ⟨n2, hN2⟩ := HN2.out
    obtain ⟨x0, x1⟩ := HN1.out.cells
    have y1 := hN2.cells.2
    have HN2' := Lib.hid hN2; clear hN2 HN2
    have HPL := Lib.hid (minus_any B1 B2 l1 l2 d1 d2 gs1 gs2 a b W2.drew HX.out.drew HY.out.drew HMX.out HMY.out hl1 hba)
    go_wp2_with fail
    go_region_with (go_at_call 159; refine HPL.out.mono ?_; rintro e w1 ⟨A1, k1, c1, zs, rfl, ho1, mg1, hb1⟩
                    have hbz : Below W2.heap.size W2 w1 := (Below.refl _ W2).drew.trans hb1
                    have r0 := (HN3.out.here hbz).cells.1
                    have r1 := (HN3.out.here hbz).cells.2
                    have f0 := (HN3.out.here hbz).frozen 0
                    have f1 := (HN3.out.here hbz).frozen 1
                    have s0 := (HN1.out.here hbz).cells.1
                    have HO1 := Lib.hid ho1
                    have HG1 := Lib.hid mg1
                    clear ho1 mg1 hb1)
    all_goals
      go_wp2
      refine bodyPost_ret (v := .agg #[.bool n1, .slice A1 k1 c1]) (by simp [results, Tryz.results120, go_sem, r0, r1]) rfl ?_
      rw [HPO.out]
      have hW := HN3.out.lt
      have hne : (Value.slice A1 k1 c1).ownBlock ≠ some (w.heap.size + 1 + 1) := by
        rcases HO1.out.facts.2.2.2 with ⟨rfl, _⟩ | ⟨g, rfl, hg1, hg2⟩
        · simp [Value.ownBlock]
        · simp only [Value.ownBlock]; intro h; injection h with h; simp at hg1; omega
      refine ⟨n1, A1, k1, c1, zs, a - b, rfl, ((HO1.out.far hne _).far hne _).base_ (by simp; omega), HG1.out, HSV.out, ?_⟩
      exact ((hbc.trans (hbz.mono hbc.size)).setCell (by simp only; omega) _).setCell (by simp only; omega) _
end Go.Proofs.YtpnncoinlopndaaGreatDoor

namespace Go.Proofs.YtpnncoinlopndaaGreatDoor
open Go.RowKit Go.Shelf
theorem sv_val (a : List UInt8) : sv (digL a).2 (valD (digL a).1) = val a := rfl
theorem valD_small {a : List UInt8} {k : Nat} (h : a.length ≤ k) : valD (digL a).1 < 1000000000 ^ k := by
  have h1 := valD_lt (digL_ok a).1
  have h2 := digL_len a
  have h3 : 10 ^ (digL a).1.length ≤ 10 ^ k := Nat.pow_le_pow_right (by omega) (by omega)
  have h4 : 10 ^ k ≤ 1000000000 ^ k := Nat.pow_le_pow_left (by omega) k
  omega
theorem sv_le {ng : Bool} {r u v k : Nat} {nx ny : Bool} (h : sv ng r = sv nx u + sv ny v) (hu : u < 1000000000 ^ k) (hv : v < 1000000000 ^ k) : r < 1000000000 ^ (k + 1) := by
  have : r ≤ u + v := by cases ng <;> cases nx <;> cases ny <;> simp [sv] at h <;> omega
  rw [Nat.pow_succ]
  omega
def StrPost (l : List UInt8) (w : World) (e : Ending) (w' : World) : Prop := e = .returned (S l) ∧ Below w.heap.size w w'
set_option maxRecDepth 20000 in
set_option maxHeartbeats 1000000 in
theorem Add_any (a b : List UInt8) (w : World) (hp : Pow w) (ha : a.length ≤ 100000) (hb : b.length ≤ 100000) : Calls Tryz.prog 77 #[S a, S b] w (StrPost (txtL (val a + val b)) w) := by
  have HRa := Lib.hid (read_any a w (by omega))
  have HRb := Lib.hid (fun W => read_any b W (by omega))
  obtain ⟨K, hK⟩ : ∃ K : Nat, K = 100000 := ⟨_, rfl⟩
  have hva := valD_small (show a.length ≤ K by omega)
  have hvb := valD_small (show b.length ≤ K by omega)
  have HK := Lib.hid hK; clear hK
  have HS := Lib.hid (show sv (digL a).2 (valD (digL a).1) + sv (digL b).2 (valD (digL b).1) = val a + val b by rw [sv_val, sv_val])
  have HPO := Lib.hid (show StrPost (txtL (val a + val b)) w = fun e w' => e = .returned (S (txtL (val a + val b))) ∧ Below w.heap.size w w' from rfl)
  unfold ReadPost at HRa HRb
  have HVA := Lib.hid hva; have HVB := Lib.hid hvb; have HP := Lib.hid hp
  generalize StrPost (txtL (val a + val b)) w = post at *
  generalize (digL a).2 = na at *
  generalize (digL b).2 = nb at *
  generalize valD (digL a).1 = u at *
  generalize valD (digL b).1 = v at *
  clear ha hb hva hvb hp
  unfold S at *
  go_enter Tryz.func77, Tryz.ntmps77
  go_wp2_with fail
  refine HRa.out.mono ?_
  rintro e w1 ⟨A1, n1, c1, xs, rfl, ho1, mg1, hb1⟩
  have HO1 := Lib.hid ho1; have HM1 := Lib.hid mg1; clear ho1 mg1 HRa
  go_wp2_with fail
  refine (HRb.out _).mono ?_
  rintro e w2 ⟨A2, n2, c2, ys, rfl, ho2, mg2, hb2⟩
  have HO2 := Lib.hid ho2; have HM2 := Lib.hid mg2; clear ho2 mg2 HRb
  have HX1 := Lib.hid ((HO1.out.below hb2).sl U1_len)
  have HX2 := Lib.hid (HO2.out.sl U1_len)
  have HL1 := Lib.hid (show n1 ≤ K by rw [HX1.out.1]; exact HM1.out.len HVA.out)
  have HL2 := Lib.hid (show n2 ≤ K by rw [HX2.out.1]; exact HM2.out.len HVB.out)
  have hb02 := hb1.trans (hb2.mono hb1.size)
  go_wp2_with fail
  refine (add_any na nb A1 A2 n1 n2 c1 c2 xs ys u v w2 HX1.out HX2.out HM1.out HM2.out (by have := HL1.out; have := HK.out; omega) (by have := HL2.out; have := HK.out; omega)).mono ?_
  rintro e w3 ⟨ng, A3, n3, c3, zs, r, rfl, ho3, mg3, hsv, hb3⟩
  have HX3 := Lib.hid (ho3.sl U1_len)
  have HL3 := Lib.hid (show n3 ≤ K + 1 by rw [HX3.out.1]; exact mg3.len (sv_le hsv HVA.out HVB.out))
  have hcap : n3 ≤ c3 := by obtain ⟨h1, h2, _⟩ := ho3.facts; omega
  have HM3 := Lib.hid mg3; have HSV := Lib.hid hsv
  have hb03 := hb02.trans (hb3.mono hb02.size)
  clear ho3 mg3 hsv
  have HTX := Lib.hid (text_any ng A3 n3 c3 zs w3 HX3.out HM3.out.gs hcap (by have := HL3.out; have := HK.out; omega) (HP.out.here hb03))
  rw [HM3.out.val, numT_sv, HSV.out, HS.out] at HTX
  unfold S at HTX
  go_wp2_with fail
  refine HTX.out.mono ?_
  rintro e w4 ⟨rfl, hb4⟩
  go_wp2_with fail
  rw [HPO.out]
  exact ⟨rfl, hb03.trans (hb4.mono hb03.size)⟩
theorem sv_not (nb : Bool) (v : Nat) : sv (!nb) v = -sv nb v := by cases nb <;> simp [sv]
set_option maxRecDepth 20000 in
set_option maxHeartbeats 2000000 in
theorem Sub_any (a b : List UInt8) (w : World) (hp : Pow w) (ha : a.length ≤ 100000) (hb : b.length ≤ 100000) : Calls Tryz.prog 67 #[S a, S b] w (StrPost (txtL (val a - val b)) w) := by
  have HRa := Lib.hid (fun W => read_any a W (by omega))
  have HRb := Lib.hid (read_any b w (by omega))
  obtain ⟨K, hK⟩ : ∃ K : Nat, K = 100000 := ⟨_, rfl⟩
  have hva := valD_small (show a.length ≤ K by omega)
  have hvb := valD_small (show b.length ≤ K by omega)
  have HK := Lib.hid hK; clear hK
  have HS := Lib.hid (show sv (digL a).2 (valD (digL a).1) + sv (!(digL b).2) (valD (digL b).1) = val a - val b by rw [sv_not, sv_val, sv_val]; omega)
  have HPO := Lib.hid (show StrPost (txtL (val a - val b)) w = fun e w' => e = .returned (S (txtL (val a - val b))) ∧ Below w.heap.size w w' from rfl)
  unfold ReadPost at HRa HRb
  have HVA := Lib.hid hva; have HVB := Lib.hid hvb; have HP := Lib.hid hp
  generalize StrPost (txtL (val a - val b)) w = post at *
  generalize (digL a).2 = na at *
  generalize (digL b).2 = nb at *
  generalize valD (digL a).1 = u at *
  generalize valD (digL b).1 = v at *
  clear ha hb hva hvb hp
  unfold S at *
  go_enter Tryz.func67, Tryz.ntmps67
  go_wp2_with fail
  refine HRb.out.mono ?_
  rintro e w1 ⟨A2, n2, c2, ys, rfl, ho2, mg2, hb1⟩
  have HO2 := Lib.hid ho2; have HM2 := Lib.hid mg2; clear ho2 mg2 HRb
  go_wp2_with fail
  have HN := Lib.hid (NumB.new w1 (!nb) A2 n2 c2)
  have hbA := (Below.refl w1.heap.size w1).alloc (Nat.le_refl _) (.cells #[.bool (!nb), .slice A2 n2 c2] 144)
  have HX2 := Lib.hid ((HO2.out.below hbA).sl U1_len)
  have HL2 := Lib.hid (show n2 ≤ K by rw [HX2.out.1]; exact HM2.out.len HVB.out)
  have hb0A := hb1.trans (hbA.mono hb1.size)
  obtain ⟨y0, y1⟩ := HN.out.cells
  generalize w1.alloc (.cells #[.bool (!nb), .slice A2 n2 c2] 144) = W2 at *
  generalize (!nb) = ny at *
  go_region_with (first
    | (go_at_call 111; refine (HRa.out _).mono ?_; rintro e w2 ⟨A1, n1, c1, xs, rfl, ho1, mg1, hb2⟩
       have hbz : Below W2.heap.size W2 w2 := (Below.refl _ W2).drew.trans hb2
       have z0 := (HN.out.here hbz).cells.1
       have z1 := (HN.out.here hbz).cells.2
       have HX1 := Lib.hid (ho1.sl U1_len)
       have HM1 := Lib.hid mg1
       have HL1 := Lib.hid (show n1 ≤ K by rw [HX1.out.1]; exact mg1.len HVA.out)
       have hb02 := hb0A.trans (hbz.mono hb0A.size)
       clear ho1 mg1 hb2)
    | (go_at_call 120; refine (add_any na ny A1 A2 n1 n2 c1 c2 xs ys u v w2 HX1.out (HX2.out.here hbz) HM1.out HM2.out (by have := HL1.out; have := HK.out; omega) (by have := HL2.out; have := HK.out; omega)).mono ?_; rintro e w3 ⟨ng, A3, n3, c3, zs, r, rfl, ho3, mg3, hsv, hb3⟩
       have HX3 := Lib.hid (ho3.sl U1_len)
       have HL3 := Lib.hid (show n3 ≤ K + 1 by rw [HX3.out.1]; exact mg3.len (sv_le hsv HVA.out HVB.out))
       have hcap : n3 ≤ c3 := by obtain ⟨h1, h2, _⟩ := ho3.facts; omega
       have HM3 := Lib.hid mg3; have HSV := Lib.hid hsv
       have hb03 := hb02.trans (hb3.mono hb02.size)
       have HTX := Lib.hid (text_any ng A3 n3 c3 zs w3 HX3.out HM3.out.gs hcap (by have := HL3.out; have := HK.out; omega) (HP.out.here hb03))
       rw [HM3.out.val, numT_sv, HSV.out, HS.out] at HTX
       unfold S at HTX
       clear ho3 mg3 hsv)
    | (go_at_call 121; refine HTX.out.mono ?_; rintro e w4 ⟨rfl, hb4⟩))
  all_goals
    go_wp2_with fail
    go_ret
    rw [HPO.out]
    exact ⟨rfl, hb03.trans (hb4.mono hb03.size)⟩
end Go.Proofs.YtpnncoinlopndaaGreatDoor

namespace Go.Proofs.YtpnncoinlopndaaGreatDoor
open Go.RowKit Go.Shelf
theorem digL_minus {l : List UInt8} (hall : l.all isDig = true) (hz : ∀ b t, l = b :: t → (b == 48) = false) (hn : l ≠ []) : digL (45 :: l) = (l, true) := by
  have ht : Lib.trimPrefix (45 :: l) [45] = l := by simp [Lib.trimPrefix, Lib.hasPrefix, List.isPrefixOf]
  have hp : Lib.hasPrefix (45 :: l) [45] = true := by simp [Lib.hasPrefix, List.isPrefixOf]
  cases l with
  | nil => exact absurd rfl hn
  | cons b t =>
    unfold digL
    simp only [ht, hall, hp, if_true]
    rw [List.dropWhile_cons, hz b t rfl]
    rfl
theorem val_txtL (n : Int) : val (txtL n) = n := by
  by_cases h0 : n = 0
  · subst h0; decide +kernel
  · have hne : n.natAbs ≠ 0 := by omega
    obtain ⟨b, l, e, h1, h2⟩ := digs_head n.natAbs hne
    rw [txtL_digs]
    by_cases hn : n < 0
    · rw [if_pos hn]
      have h := digL_minus (l := digs n.natAbs) (digs_dig _) (fun c t e' => by rw [e] at e'; injection e' with e1 e2; rw [← e1]; exact h1) (by rw [e]; simp)
      unfold val
      rw [show ([45] ++ digs n.natAbs : List UInt8) = 45 :: digs n.natAbs from rfl, h]
      simp only [if_true, valD_digs]
      omega
    · rw [if_neg hn, List.nil_append]
      unfold val
      rw [canon_digs _ hne]
      simp only [Bool.false_eq_true, if_false, valD_digs]
      omega
theorem val_nil : val [] = 0 := by decide +kernel
theorem txtL_inj {m n : Int} (h : txtL m = txtL n) : m = n := by rw [← val_txtL m, h, val_txtL]
theorem txtL_nil {n : Int} : txtL n = [] ↔ n = 0 := ⟨fun h => by rw [← val_txtL n, h, val_nil], fun h => by rw [h]; rfl⟩
theorem val_lt (a : List UInt8) : (val a).natAbs < 10 ^ a.length := by
  have h1 := valD_lt (digL_ok a).1
  have h2 := digL_len a
  have h3 : 10 ^ (digL a).1.length ≤ 10 ^ a.length := Nat.pow_le_pow_right (by omega) h2
  unfold val
  split <;> omega
theorem digs_length {m L : Nat} : m < 10 ^ L → (digs m).length ≤ L := by
  induction L generalizing m with
  | zero => intro h; simp at h; subst h; simp [digs]
  | succ L ih =>
    intro h
    by_cases h0 : m = 0
    · subst h0; simp [digs]
    · rw [digs_step m h0, List.length_append, List.length_singleton]
      have := ih (m := m / 10) (by rw [Nat.pow_succ] at h; omega)
      omega
theorem txtL_length {n : Int} {L : Nat} (h : n.natAbs < 10 ^ L) : (txtL n).length ≤ L + 1 := by
  have := digs_length h
  rw [txtL_digs, List.length_append]
  split <;> simp <;> omega
structure Fr where
  n : List UInt8
  d : List UInt8
deriving DecidableEq
theorem Fr.ext_ {f g : Fr} (h1 : f.n = g.n) (h2 : f.d = g.d) : f = g := by cases f; cases g; simp_all
def Fr.zero : Fr := ⟨[], []⟩
def Fr.dv (f : Fr) : Int := if val f.d = 0 then 1 else val f.d
theorem Fr.dv_ne (f : Fr) : f.dv ≠ 0 := by
  unfold Fr.dv
  split
  · omega
  · assumption
def Fr.rat (f : Fr) : Rat := Rat.divInt (val f.n) f.dv
def frOf (q : Rat) : Fr := ⟨txtL q.num, if q.den = 1 then [] else txtL q.den⟩
theorem rat_frOf (q : Rat) : (frOf q).rat = q := by
  unfold Fr.rat Fr.dv frOf
  simp only [val_txtL]
  by_cases h : q.den = 1
  · rw [if_pos h, if_pos val_nil]
    have := Rat.num_divInt_den q
    rw [h] at this
    exact this
  · rw [if_neg h, val_txtL, if_neg (by have := q.den_nz; omega)]
    exact Rat.num_divInt_den q
theorem frOf_zero : frOf 0 = Fr.zero := rfl
theorem rat_zero : Fr.zero.rat = 0 := by rw [← frOf_zero, rat_frOf]
theorem rat_sub (f g : Fr) : f.rat - g.rat = Rat.divInt (val f.n * g.dv - val g.n * f.dv) (f.dv * g.dv) := Rat.divInt_sub_divInt _ _ f.dv_ne g.dv_ne
theorem rat_mul (f g : Fr) : f.rat * g.rat = Rat.divInt (val f.n * val g.n) (f.dv * g.dv) := Rat.divInt_mul_divInt _ _
theorem red_num (n d : Int) (hd : 0 < d) : Int.fdiv n (Int.gcd n d) = (Rat.divInt n d).num := by
  rw [Rat.num_divInt, Int.sign_eq_one_of_pos hd, Int.one_mul, Int.gcd_comm d n, Int.fdiv_eq_ediv_of_nonneg _ (by omega)]
theorem red_den (n d : Int) (hd : 0 < d) : Int.fdiv d (Int.gcd n d) = (Rat.divInt n d).den := by
  rw [Rat.den_divInt, if_neg (by omega), Int.gcd_comm d n, Int.fdiv_eq_ediv_of_nonneg _ (by omega), Int.natCast_ediv, Int.natAbs_of_nonneg (by omega)]
theorem gcd_pos (n d : Int) (hd : d ≠ 0) : (0 : Int) < Int.gcd n d := by
  have := Int.gcd_pos_of_ne_zero_right n hd
  omega
theorem divInt_num_le (n d : Int) : (Rat.divInt n d).num.natAbs ≤ n.natAbs := by
  rw [Rat.num_divInt]
  have h1 : (d.sign * n / (d.gcd n : Int)).natAbs ≤ (d.sign * n).natAbs := Int.natAbs_ediv_le_natAbs _ _
  have h2 : (d.sign * n).natAbs ≤ n.natAbs := by
    rw [Int.natAbs_mul]
    have : d.sign.natAbs ≤ 1 := by
      rcases Int.lt_trichotomy d 0 with h | h | h
      · rw [Int.sign_eq_neg_one_of_neg h]; decide
      · rw [h]; decide
      · rw [Int.sign_eq_one_of_pos h]; decide
    calc d.sign.natAbs * n.natAbs ≤ 1 * n.natAbs := Nat.mul_le_mul_right _ this
      _ = n.natAbs := Nat.one_mul _
  omega
theorem divInt_den_le (n d : Int) (hd : d ≠ 0) : (Rat.divInt n d).den ≤ d.natAbs := by
  rw [Rat.den_divInt, if_neg hd]
  exact Nat.div_le_self _ _
def RB (L : Nat) (q : Rat) : Prop := q.num.natAbs < 10 ^ L ∧ q.den < 10 ^ L
theorem RB.more {L M : Nat} {q : Rat} (h : RB L q) (hLM : L ≤ M) : RB M q :=
  ⟨Nat.lt_of_lt_of_le h.1 (Nat.pow_le_pow_right (by omega) hLM), Nat.lt_of_lt_of_le h.2 (Nat.pow_le_pow_right (by omega) hLM)⟩
theorem RB.divInt {L : Nat} {n d : Int} (hn : n.natAbs < 10 ^ L) (hd : d.natAbs < 10 ^ L) (h0 : d ≠ 0) : RB L (Rat.divInt n d) :=
  ⟨Nat.lt_of_le_of_lt (divInt_num_le n d) hn, Nat.lt_of_le_of_lt (divInt_den_le n d h0) hd⟩
def Fr.Sz (L : Nat) (f : Fr) : Prop := f.n.length ≤ L ∧ f.d.length ≤ L
theorem Fr.dv_lt {f : Fr} {L : Nat} (h : f.d.length ≤ L) (hL : 1 ≤ L) : f.dv.natAbs < 10 ^ L := by
  unfold Fr.dv
  have h1 := val_lt f.d
  have h2 : 10 ^ f.d.length ≤ 10 ^ L := Nat.pow_le_pow_right (by omega) h
  have h3 : 10 ^ 1 ≤ 10 ^ L := Nat.pow_le_pow_right (by omega) hL
  split <;> omega
theorem val_lt' {a : List UInt8} {L : Nat} (h : a.length ≤ L) : (val a).natAbs < 10 ^ L :=
  Nat.lt_of_lt_of_le (val_lt a) (Nat.pow_le_pow_right (by omega) h)
theorem mul_lt_pow {a b : Int} {L M : Nat} (ha : a.natAbs < 10 ^ L) (hb : b.natAbs < 10 ^ M) : (a * b).natAbs < 10 ^ (L + M) := by
  rw [Int.natAbs_mul, Nat.pow_add]
  have h0 : 0 < 10 ^ M := Nat.pow_pos (by omega)
  rcases Nat.eq_zero_or_pos a.natAbs with h | h
  · rw [h, Nat.zero_mul]; exact Nat.mul_pos (Nat.pow_pos (by omega)) h0
  · exact Nat.lt_of_lt_of_le (Nat.mul_lt_mul_of_pos_left hb h) (Nat.mul_le_mul_right _ (Nat.le_of_lt ha))
theorem sub_lt_pow {a b : Int} {L : Nat} (ha : a.natAbs < 10 ^ L) (hb : b.natAbs < 10 ^ L) : (a - b).natAbs < 10 ^ (L + 1) := by
  rw [Nat.pow_succ]; omega
theorem frOf_sz {q : Rat} {L : Nat} (h : RB L q) : (frOf q).Sz (L + 1) := by
  refine ⟨txtL_length h.1, ?_⟩
  unfold frOf
  simp only
  split
  · simp
  · exact txtL_length (by simpa using h.2)
theorem sz_rb {f : Fr} {L : Nat} (h : f.Sz L) (hL : 1 ≤ L) : RB L f.rat := RB.divInt (val_lt' h.1) (Fr.dv_lt h.2 hL) f.dv_ne
theorem Fr.Sz.more {f : Fr} {L M : Nat} (h : f.Sz L) (hLM : L ≤ M) : f.Sz M := ⟨Nat.le_trans h.1 hLM, Nat.le_trans h.2 hLM⟩
theorem rb_sub {f g : Fr} {L : Nat} (hf : f.Sz L) (hg : g.Sz L) (hL : 1 ≤ L) : RB (L + L + 1) (f.rat - g.rat) := by
  rw [rat_sub]
  have h0 := Int.mul_ne_zero f.dv_ne g.dv_ne
  refine RB.divInt (sub_lt_pow (mul_lt_pow (val_lt' hf.1) (Fr.dv_lt hg.2 hL)) (mul_lt_pow (val_lt' hg.1) (Fr.dv_lt hf.2 hL))) ?_ h0
  exact Nat.lt_of_lt_of_le (mul_lt_pow (Fr.dv_lt hf.2 hL) (Fr.dv_lt hg.2 hL)) (Nat.pow_le_pow_right (by omega) (by omega))
theorem rb_mul {f g : Fr} {L : Nat} (hf : f.Sz L) (hg : g.Sz L) (hL : 1 ≤ L) : RB (L + L) (f.rat * g.rat) := by
  rw [rat_mul]
  exact RB.divInt (mul_lt_pow (val_lt' hf.1) (val_lt' hg.1)) (mul_lt_pow (Fr.dv_lt hf.2 hL) (Fr.dv_lt hg.2 hL)) (Int.mul_ne_zero f.dv_ne g.dv_ne)
def cmpR (x y : Rat) : Int := if x < y then -1 else if y < x then 1 else 0
def sgnI (n : Int) : Int := if n < 0 then -1 else if 0 < n then 1 else 0
theorem lt_divInt (a c : Int) {b d : Int} (hb : 0 < b) (hd : 0 < d) : Rat.divInt a b < Rat.divInt c d ↔ a * d < c * b := by
  have hb' : (0 : Rat) < (b : Rat) := by exact_mod_cast hb
  have hd' : (0 : Rat) < (d : Rat) := by exact_mod_cast hd
  rw [Rat.divInt_eq_div, Rat.divInt_eq_div, Rat.div_lt_iff hb', Rat.div_def c, Rat.mul_assoc, Rat.mul_comm _ (b : Rat), ← Rat.mul_assoc, ← Rat.div_def, Rat.lt_div_iff hd']
  exact_mod_cast Iff.rfl
theorem cmpR_divInt (a c : Int) {b d : Int} (hb : 0 < b) (hd : 0 < d) : cmpR (Rat.divInt a b) (Rat.divInt c d) = sgnI (a * d - c * b) := by
  unfold cmpR sgnI
  simp only [lt_divInt a c hb hd, lt_divInt c a hd hb]
  have e1 : a * d - c * b < 0 ↔ a * d < c * b := by omega
  have e2 : 0 < a * d - c * b ↔ c * b < a * d := by omega
  simp only [e1, e2]
theorem cmpR_sub (x y : Rat) : cmpR x y = sgnI (x - y).num := by
  unfold cmpR sgnI
  have e1 : (x - y).num < 0 ↔ x < y := by
    have h := Rat.num_nonneg (q := x - y)
    have h2 := Rat.le_iff_sub_nonneg y x
    rw [← Rat.not_le, h2, ← h]
    omega
  have e2 : 0 < (x - y).num ↔ y < x := by
    have h := Rat.num_nonneg (q := y - x)
    have h2 := Rat.le_iff_sub_nonneg x y
    rw [← Rat.not_le, h2, ← h, ← Rat.neg_sub x y, Rat.neg_num]
    omega
  simp only [e1, e2]
def Fr.ok (f : Fr) : Prop := f = frOf f.rat
instance (f : Fr) : Decidable f.ok := inferInstanceAs (Decidable (f = frOf f.rat))
end Go.Proofs.YtpnncoinlopndaaGreatDoor

