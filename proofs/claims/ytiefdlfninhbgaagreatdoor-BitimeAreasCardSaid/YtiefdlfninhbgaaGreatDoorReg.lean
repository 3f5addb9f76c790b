/- Regions: their plain form and how a slice of them reads. -/
import Derived.Test.YtiefdlfninhbgaaGreatDoorBase
namespace Go.Proofs.YtiefdlfninhbgaaGreatDoor
open Go.RowKit

structure Reg where
  fr : Int
  to : Int
  si : Int
  un : Int
deriving DecidableEq, Inhabited

def Reg.vals (r : Reg) : List Value := [.int .i64 r.fr, .int .i64 r.to, .int .i64 r.si, .int .i64 r.un]
def Reg.val (r : Reg) : Value := .agg #[.int .i64 r.fr, .int .i64 r.to, .int .i64 r.si, .int .i64 r.un]
theorem Reg.vals_len (r : Reg) : r.vals.length = 4 := rfl
theorem Reg.vals_one (r : Reg) : ∀ u ∈ r.vals, u.oneCell' = true := by simp [Reg.vals, Value.oneCell']

abbrev Rgs (w : World) (B : Nat) (A : Option Addr) (n : Nat) (xs : List Reg) : Prop := Sl Reg.vals 4 w B A n xs
theorem Sl.reg {w : World} {B : Nat} {A : Option Addr} {n : Nat} {xs : List Reg} {i : Nat} (h : Rgs w B A n xs) (hi : i < n) :
    ∃ b off r, A = some ⟨b, off, none⟩ ∧ b < B ∧ xs[i]? = some r ∧ w.cell? ⟨b, off + i * 4, none⟩ = some (.int .i64 r.fr) ∧ w.cell? ⟨b, off + i * 4 + 1, none⟩ = some (.int .i64 r.to) ∧
      w.cell? ⟨b, off + i * 4 + 2, none⟩ = some (.int .i64 r.si) ∧ w.cell? ⟨b, off + i * 4 + 3, none⟩ = some (.int .i64 r.un) := by
  obtain ⟨b, off, r, hA, hb, hx, hc⟩ := h.at_ hi
  exact ⟨b, off, r, hA, hb, hx, hc 0 _ rfl, hc 1 _ rfl, hc 2 _ rfl, hc 3 _ rfl⟩

/-- An int's cell. -/
def I1 (x : Int) : List Value := [.int .i64 x]
theorem I1_len (x : Int) : (I1 x).length = 1 := rfl
theorem I1_one (x : Int) : ∀ u ∈ I1 x, u.oneCell' = true := by simp [I1, Value.oneCell']
abbrev Ints (w : World) (B : Nat) (A : Option Addr) (n : Nat) (xs : List Int) : Prop := Sl I1 1 w B A n xs
theorem Sl.int {w : World} {B : Nat} {A : Option Addr} {n : Nat} {xs : List Int} {i : Nat} (h : Ints w B A n xs) (hi : i < n) :
    ∃ b off x, A = some ⟨b, off, none⟩ ∧ b < B ∧ xs[i]? = some x ∧ w.cell? ⟨b, off + i, none⟩ = some (.int .i64 x) := by
  obtain ⟨b, off, x, hA, hb, hx, hc⟩ := h.at_ hi
  exact ⟨b, off, x, hA, hb, hx, by have := hc 0 _ rfl; simpa using this⟩

theorem elemRegs : ElemT Tryz.prog 22 35 4 32 := elemT_of Tryz.underlying22 (by kernel_rfl) (by decide) (by decide)
theorem elemInts : ElemT Tryz.prog 69 3 1 8 := elemT_of Tryz.underlying69 (by kernel_rfl) (by decide) (by decide)
theorem elemDays : ElemT Tryz.prog 123 23 1 8 := elemT_of Tryz.underlying123 (by kernel_rfl) (by decide) (by decide)
end Go.Proofs.YtiefdlfninhbgaaGreatDoor
