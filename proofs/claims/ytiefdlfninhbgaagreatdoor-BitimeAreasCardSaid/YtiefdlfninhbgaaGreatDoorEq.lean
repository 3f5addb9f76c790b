/- Struct comparison; contracts of slices.Equal and of the reference's same and Same. -/
import Derived.Test.YtiefdlfninhbgaaGreatDoorW1
import Derived.Test.YtiefdlfninhbgaaGreatDoorPl
namespace Go.Proofs.YtiefdlfninhbgaaGreatDoor
open Go.RowKit

theorem neqReg (x y : Reg) (w : World) : (binOp .neq 35 x.val y.val).run Tryz.prog w = .ok (.bool (!decide (x = y))) w := by
  have u3 := Tryz.underlying3
  have u23 := Tryz.underlying23
  have a3 := Tryz.isAgg3
  have z3 := Tryz.sizeOf3
  have a23 := Tryz.isAgg23
  have z23 := Tryz.sizeOf23
  have hS : Tryz.prog.underlying 35 = some (.struct (Tryz.prog.fieldsOf 35)) := by kernel_rfl
  have hp : Tryz.prog.stoodInHeld 35 = false := by kernel_rfl
  obtain ⟨a, b, c, d⟩ := x
  obtain ⟨a', b', c', d'⟩ := y
  simp only [Reg.val]
  rw [run_neq_struct, show (10000 : Nat) = 9999 + 1 from rfl, run_equalIn_agg w 9999 35 _ _ hS hp]
  simp only [Program.fieldsOf, Tryz.underlying35]
  go_simp
  by_cases h1 : a = a' <;> by_cases h2 : b = b' <;> by_cases h3 : c = c' <;> by_cases h4 : d = d' <;> simp [h1, h2, h3, h4]
theorem neqRSpan (x y : Span) (w : World) : (binOp .neq 79 (.agg #[.int .i64 x.1, .int .i64 x.2]) (.agg #[.int .i64 y.1, .int .i64 y.2])).run Tryz.prog w = .ok (.bool (!decide (x = y))) w := by
  have u3 := Tryz.underlying3
  have a3 := Tryz.isAgg3
  have z3 := Tryz.sizeOf3
  have hS : Tryz.prog.underlying 79 = some (.struct (Tryz.prog.fieldsOf 79)) := by kernel_rfl
  have hp : Tryz.prog.stoodInHeld 79 = false := by kernel_rfl
  obtain ⟨a, b⟩ := x
  obtain ⟨a', b'⟩ := y
  rw [run_neq_struct, show (10000 : Nat) = 9999 + 1 from rfl, run_equalIn_agg w 9999 79 _ _ hS hp]
  simp only [Program.fieldsOf, Tryz.underlying79]
  go_simp
  by_cases h1 : a = a' <;> by_cases h2 : b = b' <;> simp [h1, h2]
theorem neqSpan (x y : Span) (w : World) : (binOp .neq 109 (.agg #[.int .i64 x.1, .int .i64 x.2]) (.agg #[.int .i64 y.1, .int .i64 y.2])).run Tryz.prog w = .ok (.bool (!decide (x = y))) w := by
  have u3 := Tryz.underlying3
  have a3 := Tryz.isAgg3
  have z3 := Tryz.sizeOf3
  have hS : Tryz.prog.underlying 109 = some (.struct (Tryz.prog.fieldsOf 109)) := by kernel_rfl
  have hp : Tryz.prog.stoodInHeld 109 = false := by kernel_rfl
  obtain ⟨a, b⟩ := x
  obtain ⟨a', b'⟩ := y
  rw [run_neq_struct, show (10000 : Nat) = 9999 + 1 from rfl, run_equalIn_agg w 9999 109 _ _ hS hp]
  simp only [Program.fieldsOf, Tryz.underlying109]
  go_simp
  by_cases h1 : a = a' <;> by_cases h2 : b = b' <;> simp [h1, h2]

theorem take_eq_step {α : Type} {xs ys : List α} {j : Nat} {r s : α} (hr : xs[j]? = some r) (hs : ys[j]? = some s) (h : xs.take j = ys.take j) (e : r = s) : xs.take (j + 1) = ys.take (j + 1) := by
  subst e
  obtain ⟨h1, rfl⟩ := List.getElem?_eq_some_iff.1 hr
  obtain ⟨h2, h3⟩ := List.getElem?_eq_some_iff.1 hs
  rw [List.take_succ_eq_append_getElem h1, List.take_succ_eq_append_getElem h2, h, h3]
theorem ne_of_at {α : Type} {xs ys : List α} {j : Nat} {r s : α} (hr : xs[j]? = some r) (hs : ys[j]? = some s) (h : r ≠ s) : xs ≠ ys := by
  rintro rfl; rw [hr] at hs; injection hs with hs; exact h hs

set_option maxHeartbeats 400000 in
theorem equalR_any (A A' : Option Addr) (n m c c' : Nat) (xs ys : List Reg) (w : World) (hx : Rgs w w.heap.size A n xs) (hy : Rgs w w.heap.size A' m ys) (hn : n ≤ 1000000000) (hm : m ≤ 1000000000) :
    Calls Tryz.prog 17 #[.slice A n c, .slice A' m c'] w fun e w' => e = .returned (.bool (decide (xs = ys))) ∧ ∃ q, w' = w.drewN q := by
  by_cases hnm : n = m
  · subst hnm
    have HXY := Lib.hid (And.intro hx hy)
    have hgd : Tryz.prog.eqGuardType Tryz.prog.depth 35 = false := by kernel_rfl
    go_enter Tryz.func17, Tryz.ntmps17
    go_wp2
    go_loopw [5, 13] (fun _ i wr => ∃ (j q : Nat), j ≤ n ∧ i = .int .i64 j ∧ xs.take j = ys.take j ∧ wr = w.drewN q) (fun _ i _ => n - (intOf i).toNat)
    case atStart => exact ⟨0, 0, Nat.zero_le _, rfl, by simp, rfl⟩
    case round =>
      obtain ⟨j, q, hj, rfl, heq, hwr⟩ := hrel
      have hx' : Rgs wr w.heap.size A n xs := by rw [hwr]; exact hx.drewN q
      have hy' : Rgs wr w.heap.size A' n ys := by rw [hwr]; exact hy.drewN q
      have HW := Lib.hid hwr; clear hwr
      by_cases hlt : j < n
      · obtain ⟨b, off, r, rfl, hbl, hxj, d0, d1, d2, d3⟩ := hx'.reg hlt
        obtain ⟨b', off', s, rfl, hbl', hyj, d0', d1', d2', d3'⟩ := hy'.reg hlt
        have hltz : (j : Int) < (n : Int) := by omega
        have hneq := fun W => neqReg r s W
        unfold Reg.val at hneq
        have HE := Lib.hid heq; clear heq
        have HX := Lib.hid hxj; clear hxj
        have HY := Lib.hid hyj; clear hyj
        clear hx hy hx' hy'
        by_cases hrs : r = s
        · have HRS := Lib.hid hrs
          rw [show (!decide (r = s)) = false by simp [hrs]] at hneq
          clear hrs
          go_wp2
          go_quiet (fail)
          clear hneq
          go_wp2
          go_roundw
          case rel => exact ⟨j + 1, q + nq, by omega, by go_num, take_eq_step HX.out HY.out HE.out HRS.out, by rw [HW.out, World.drewN_drewN]⟩
          case measure => simp [intOf]; omega
        · have HRS := Lib.hid hrs
          rw [show (!decide (r = s)) = true by simp [hrs]] at hneq
          clear hrs
          go_wp2
          go_quiet (fail)
          clear hneq
          go_wp2
          go_ret
          exact ⟨ret_bool (by have := ne_of_at HX.out HY.out HRS.out; simp [this]), q + nq, by rw [HW.out, World.drewN_drewN]⟩
      · go_wp2
        go_ret
        exact ⟨ret_bool (by rw [take_all hx.1 (by omega), take_all hy.1 (by omega)] at heq; simp [heq]), q, HW.out⟩
  · have h1 : (n == m) = false := by simp [hnm]
    have h2 : ((n : Int) == (m : Int)) = false := by simp; omega
    have h3 : ((n : Int) != (m : Int)) = true := by simp; omega
    have hne : decide (xs = ys) = false := by simp; rintro rfl; exact hnm (hx.1.trans hy.1.symm)
    have HX := Lib.hid hx; clear hx
    have HY := Lib.hid hy; clear hy
    have HN := Lib.hid hne; clear hne
    go_enter Tryz.func17, Tryz.ntmps17
    go_wp2
    go_ret
    exact ⟨ret_bool HN.out.symm, 0, rfl⟩
set_option maxHeartbeats 400000 in
theorem equalS_any (A A' : Option Addr) (n m c c' : Nat) (xs ys : List Span) (w : World) (hx : Spans w w.heap.size A n xs) (hy : Spans w w.heap.size A' m ys) (hn : n ≤ 1000000000) (hm : m ≤ 1000000000) :
    Calls Tryz.prog 80 #[.slice A n c, .slice A' m c'] w fun e w' => e = .returned (.bool (decide (xs = ys))) ∧ ∃ q, w' = w.drewN q := by
  by_cases hnm : n = m
  · subst hnm
    have HXY := Lib.hid (And.intro hx hy)
    have hgd : Tryz.prog.eqGuardType Tryz.prog.depth 109 = false := by kernel_rfl
    go_enter Tryz.func80, Tryz.ntmps80
    go_wp2
    go_loopw [5, 13] (fun _ i wr => ∃ (j q : Nat), j ≤ n ∧ i = .int .i64 j ∧ xs.take j = ys.take j ∧ wr = w.drewN q) (fun _ i _ => n - (intOf i).toNat)
    case atStart => exact ⟨0, 0, Nat.zero_le _, rfl, by simp, rfl⟩
    case round =>
      obtain ⟨j, q, hj, rfl, heq, hwr⟩ := hrel
      have hx' : Spans wr w.heap.size A n xs := by rw [hwr]; exact hx.drewN q
      have hy' : Spans wr w.heap.size A' n ys := by rw [hwr]; exact hy.drewN q
      have HW := Lib.hid hwr; clear hwr
      by_cases hlt : j < n
      · obtain ⟨b, off, r, rfl, hbl, hxj, d0, d1⟩ := hx'.span hlt
        obtain ⟨b', off', s, rfl, hbl', hyj, d0', d1'⟩ := hy'.span hlt
        have hltz : (j : Int) < (n : Int) := by omega
        have hneq := fun W => neqSpan r s W
        have HE := Lib.hid heq; clear heq
        have HX := Lib.hid hxj; clear hxj
        have HY := Lib.hid hyj; clear hyj
        clear hx hy hx' hy'
        by_cases hrs : r = s
        · have HRS := Lib.hid hrs
          rw [show (!decide (r = s)) = false by simp [hrs]] at hneq
          clear hrs
          go_wp2
          go_quiet (fail)
          clear hneq
          go_wp2
          go_roundw
          case rel => exact ⟨j + 1, q + nq, by omega, by go_num, take_eq_step HX.out HY.out HE.out HRS.out, by rw [HW.out, World.drewN_drewN]⟩
          case measure => simp [intOf]; omega
        · have HRS := Lib.hid hrs
          rw [show (!decide (r = s)) = true by simp [hrs]] at hneq
          clear hrs
          go_wp2
          go_quiet (fail)
          clear hneq
          go_wp2
          go_ret
          exact ⟨ret_bool (by have := ne_of_at HX.out HY.out HRS.out; simp [this]), q + nq, by rw [HW.out, World.drewN_drewN]⟩
      · go_wp2
        go_ret
        exact ⟨ret_bool (by rw [take_all hx.1 (by omega), take_all hy.1 (by omega)] at heq; simp [heq]), q, HW.out⟩
  · have h1 : (n == m) = false := by simp [hnm]
    have h2 : ((n : Int) == (m : Int)) = false := by simp; omega
    have h3 : ((n : Int) != (m : Int)) = true := by simp; omega
    have hne : decide (xs = ys) = false := by simp; rintro rfl; exact hnm (hx.1.trans hy.1.symm)
    have HX := Lib.hid hx; clear hx
    have HY := Lib.hid hy; clear hy
    have HN := Lib.hid hne; clear hne
    go_enter Tryz.func80, Tryz.ntmps80
    go_wp2
    go_ret
    exact ⟨ret_bool HN.out.symm, 0, rfl⟩
set_option maxHeartbeats 400000 in
theorem rsame_any (A A' : Option Addr) (n m c c' : Nat) (xs ys : List Span) (w : World) (hx : Spans w w.heap.size A n xs) (hy : Spans w w.heap.size A' m ys) (hn : n ≤ 1000000000) (hm : m ≤ 1000000000) :
    Calls Tryz.prog 81 #[.slice A n c, .slice A' m c'] w fun e w' => e = .returned (.bool (decide (xs = ys))) ∧ ∃ q, w' = w.drewN q := by
  by_cases hnm : n = m
  · subst hnm
    have HXY := Lib.hid (And.intro hx hy)
    have hgd : Tryz.prog.eqGuardType Tryz.prog.depth 79 = false := by kernel_rfl
    go_enter Tryz.func81, Tryz.ntmps81
    go_wp2
    go_loopw [5] (fun i wr => ∃ (j q : Nat), j ≤ n ∧ i = .int .i64 j ∧ xs.take j = ys.take j ∧ wr = w.drewN q) (fun i _ => n - (intOf i).toNat)
    case atStart => exact ⟨0, 0, Nat.zero_le _, rfl, by simp, rfl⟩
    case round =>
      obtain ⟨j, q, hj, rfl, heq, hwr⟩ := hrel
      have hx' : Spans wr w.heap.size A n xs := by rw [hwr]; exact hx.drewN q
      have hy' : Spans wr w.heap.size A' n ys := by rw [hwr]; exact hy.drewN q
      have HW := Lib.hid hwr; clear hwr
      by_cases hlt : j < n
      · obtain ⟨b, off, r, rfl, hbl, hxj, d0, d1⟩ := hx'.span hlt
        obtain ⟨b', off', s, rfl, hbl', hyj, d0', d1'⟩ := hy'.span hlt
        have hltz : (j : Int) < (n : Int) := by omega
        have hneq := fun W => neqRSpan r s W
        have HE := Lib.hid heq; clear heq
        have HX := Lib.hid hxj; clear hxj
        have HY := Lib.hid hyj; clear hyj
        clear hx hy hx' hy'
        by_cases hrs : r = s
        · have HRS := Lib.hid hrs
          rw [show (!decide (r = s)) = false by simp [hrs]] at hneq
          clear hrs
          go_wp2
          go_quiet (fail)
          clear hneq
          go_wp2
          go_roundw
          case rel => exact ⟨j + 1, q + nq, by omega, by go_num, take_eq_step HX.out HY.out HE.out HRS.out, by rw [HW.out, World.drewN_drewN]⟩
          case measure => simp [intOf]; omega
        · have HRS := Lib.hid hrs
          rw [show (!decide (r = s)) = true by simp [hrs]] at hneq
          clear hrs
          go_wp2
          go_quiet (fail)
          clear hneq
          go_wp2
          go_ret
          exact ⟨ret_bool (by have := ne_of_at HX.out HY.out HRS.out; simp [this]), q + nq, by rw [HW.out, World.drewN_drewN]⟩
      · go_wp2
        go_ret
        exact ⟨ret_bool (by rw [take_all hx.1 (by omega), take_all hy.1 (by omega)] at heq; simp [heq]), q, HW.out⟩
  · have h1 : (n == m) = false := by simp [hnm]
    have h2 : ((n : Int) == (m : Int)) = false := by simp; omega
    have h3 : ((n : Int) != (m : Int)) = true := by simp; omega
    have hne : decide (xs = ys) = false := by simp; rintro rfl; exact hnm (hx.1.trans hy.1.symm)
    have HX := Lib.hid hx; clear hx
    have HY := Lib.hid hy; clear hy
    have HN := Lib.hid hne; clear hne
    go_enter Tryz.func81, Tryz.ntmps81
    go_wp2
    go_ret
    exact ⟨ret_bool HN.out.symm, 0, rfl⟩
set_option maxHeartbeats 400000 in
theorem rSame_any (A A' : Option Addr) (n m c c' : Nat) (xs ys : List Reg) (w : World) (hx : Rgs w w.heap.size A n xs) (hy : Rgs w w.heap.size A' m ys) (hn : n ≤ 1000000000) (hm : m ≤ 1000000000) :
    Calls Tryz.prog 43 #[.slice A n c, .slice A' m c'] w fun e w' => e = .returned (.bool (decide (xs = ys))) ∧ ∃ q, w' = w.drewN q := by
  by_cases hnm : n = m
  · subst hnm
    have HXY := Lib.hid (And.intro hx hy)
    have hgd : Tryz.prog.eqGuardType Tryz.prog.depth 35 = false := by kernel_rfl
    go_enter Tryz.func43, Tryz.ntmps43
    go_wp2
    go_loopw [5] (fun i wr => ∃ (j q : Nat), j ≤ n ∧ i = .int .i64 j ∧ xs.take j = ys.take j ∧ wr = w.drewN q) (fun i _ => n - (intOf i).toNat)
    case atStart => exact ⟨0, 0, Nat.zero_le _, rfl, by simp, rfl⟩
    case round =>
      obtain ⟨j, q, hj, rfl, heq, hwr⟩ := hrel
      have hx' : Rgs wr w.heap.size A n xs := by rw [hwr]; exact hx.drewN q
      have hy' : Rgs wr w.heap.size A' n ys := by rw [hwr]; exact hy.drewN q
      have HW := Lib.hid hwr; clear hwr
      by_cases hlt : j < n
      · obtain ⟨b, off, r, rfl, hbl, hxj, d0, d1, d2, d3⟩ := hx'.reg hlt
        obtain ⟨b', off', s, rfl, hbl', hyj, d0', d1', d2', d3'⟩ := hy'.reg hlt
        have hltz : (j : Int) < (n : Int) := by omega
        have hneq := fun W => neqReg r s W
        unfold Reg.val at hneq
        have HE := Lib.hid heq; clear heq
        have HX := Lib.hid hxj; clear hxj
        have HY := Lib.hid hyj; clear hyj
        clear hx hy hx' hy'
        by_cases hrs : r = s
        · have HRS := Lib.hid hrs
          rw [show (!decide (r = s)) = false by simp [hrs]] at hneq
          clear hrs
          go_wp2
          go_quiet (fail)
          clear hneq
          go_wp2
          go_roundw
          case rel => exact ⟨j + 1, q + nq, by omega, by go_num, take_eq_step HX.out HY.out HE.out HRS.out, by rw [HW.out, World.drewN_drewN]⟩
          case measure => simp [intOf]; omega
        · have HRS := Lib.hid hrs
          rw [show (!decide (r = s)) = true by simp [hrs]] at hneq
          clear hrs
          go_wp2
          go_quiet (fail)
          clear hneq
          go_wp2
          go_ret
          exact ⟨ret_bool (by have := ne_of_at HX.out HY.out HRS.out; simp [this]), q + nq, by rw [HW.out, World.drewN_drewN]⟩
      · go_wp2
        go_ret
        exact ⟨ret_bool (by rw [take_all hx.1 (by omega), take_all hy.1 (by omega)] at heq; simp [heq]), q, HW.out⟩
  · have h1 : (n == m) = false := by simp [hnm]
    have h2 : ((n : Int) == (m : Int)) = false := by simp; omega
    have h3 : ((n : Int) != (m : Int)) = true := by simp; omega
    have hne : decide (xs = ys) = false := by simp; rintro rfl; exact hnm (hx.1.trans hy.1.symm)
    have HX := Lib.hid hx; clear hx
    have HY := Lib.hid hy; clear hy
    have HN := Lib.hid hne; clear hne
    go_enter Tryz.func43, Tryz.ntmps43
    go_wp2
    go_ret
    exact ⟨ret_bool HN.out.symm, 0, rfl⟩
end Go.Proofs.YtiefdlfninhbgaaGreatDoor
