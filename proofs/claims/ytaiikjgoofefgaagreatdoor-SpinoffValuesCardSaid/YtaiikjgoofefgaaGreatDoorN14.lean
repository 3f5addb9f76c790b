/- Contract of integer's magnitude.divide: a divisor of two groups or more. -/
import Derived.Test.YtaiikjgoofefgaaGreatDoorN13
import Derived.IntWalk
namespace Go.Proofs.YtaiikjgoofefgaaGreatDoor
open Go.RowKit Go.Shelf

theorem app_at {pre s : List Nat} {i j : Nat} (h : pre.length = i) : (pre ++ s)[i + j]? = s[j]? := by
  rw [List.getElem?_append_right (by omega)]
  congr 1
  omega
theorem app_set {pre s : List Nat} {i j d : Nat} (h : pre.length = i) : (pre ++ s).set (i + j) d = pre ++ s.set j d := by
  rw [List.set_append_right _ _ (by omega)]
  congr 2
  omega
/-- The three rows of divide: what is left, the divisor, the quotient. -/
structure DSt (w : World) (ga gb gq La ca k cb Lq : Nat) (al bs ql : List Nat) (wr : World) : Prop where
  a : Own U1 1 78 wr w.heap.size (.slice (some ⟨ga, 0, none⟩) La ca) al
  b : Own U1 1 78 wr w.heap.size (.slice (some ⟨gb, 0, none⟩) k cb) bs
  q : Own U1 1 78 wr w.heap.size (.slice (some ⟨gq, 0, none⟩) Lq Lq) ql
  ab : ga ≠ gb
  aq : ga ≠ gq
  bq : gb ≠ gq
  wa : w.heap.size ≤ ga
  wq : w.heap.size ≤ gq
  bl : Below w.heap.size w wr
section
variable {w wr : World} {ga gb gq La ca k cb Lq : Nat} {al bs ql : List Nat}
theorem Own.cellU {wr : World} {base g n c : Nat} {xs : List Nat} (h : Own U1 1 78 wr base (.slice (some ⟨g, 0, none⟩) n c) xs) {i x : Nat} (hi : xs[i]? = some x) : wr.cell? ⟨g, i, none⟩ = some (.int .u64 x) := by
  have hl := (List.getElem?_eq_some_iff.1 hi).1
  obtain ⟨b, o, y, e, _, hy, hc⟩ := (h.sl U1_len).grp (i := i) (by rw [h.facts.1]; exact hl)
  injection e with e
  injection e with e1 e2
  subst e1; subst e2
  rw [hi] at hy
  injection hy with hy
  subst hy
  simpa using hc
theorem DSt.setA (h : DSt w ga gb gq La ca k cb Lq al bs ql wr) {i x y : Nat} (hi : al[i]? = some x) : DSt w ga gb gq La ca k cb Lq (al.set i y) bs ql (wr.setCell ⟨ga, i, none⟩ (.int .u64 y)) :=
  ⟨h.a.setU hi, h.b.far (by simp [Value.ownBlock]; exact fun e => h.ab e.symm) _, h.q.far (by simp [Value.ownBlock]; exact fun e => h.aq e.symm) _, h.ab, h.aq, h.bq, h.wa, h.wq, h.bl.setCell h.wa _⟩
theorem DSt.setQ (h : DSt w ga gb gq La ca k cb Lq al bs ql wr) {i x y : Nat} (hi : ql[i]? = some x) : DSt w ga gb gq La ca k cb Lq al bs (ql.set i y) (wr.setCell ⟨gq, i, none⟩ (.int .u64 y)) :=
  ⟨h.a.far (by simp [Value.ownBlock]; exact h.aq) _, h.b.far (by simp [Value.ownBlock]; exact h.bq) _, h.q.setU hi, h.ab, h.aq, h.bq, h.wa, h.wq, h.bl.setCell h.wq _⟩
theorem DSt.drewN (h : DSt w ga gb gq La ca k cb Lq al bs ql wr) (t : Nat) : DSt w ga gb gq La ca k cb Lq al bs ql (wr.drewN t) :=
  ⟨h.a.drewN t, h.b.drewN t, h.q.drewN t, h.ab, h.aq, h.bq, h.wa, h.wq, bdN h.bl t⟩
theorem DSt.drew (h : DSt w ga gb gq La ca k cb Lq al bs ql wr) : DSt w ga gb gq La ca k cb Lq al bs ql wr.drew :=
  ⟨h.a.drew, h.b.drew, h.q.drew, h.ab, h.aq, h.bq, h.wa, h.wq, h.bl.drew⟩
end
theorem QInv.start {ps bs : List Nat} {U D k Lq : Nat} (hp : Mag ps U) (hb : Mag bs D) (hDU : D ≤ U) (hk : bs.length = k) (hk2 : 2 ≤ k) (hL : Lq + k = ps.length + 2) : QInv U D Lq (ps ++ [0, 0]) (List.replicate Lq 0) := by
  have hlen : k ≤ ps.length := by
    rcases Nat.lt_or_ge ps.length k with h | h
    · have := mag_short hp hb (by omega); omega
    · exact h
  refine ⟨(hp.gs.snoc (by omega : 0 < 1000000000)).snoc (by omega : 0 < 1000000000) |> (by simpa using ·), gs_zeros _, ?_, ?_⟩
  · rw [List.drop_of_length_le (by simp), gv_append, hp.val]
    simp [gv]
  · rw [List.drop_append_of_le_length (by omega), gv_append]
    have h1 := gv_lt (show Gs (ps.drop Lq) from fun x hx => hp.gs x (List.mem_of_mem_drop hx))
    rw [List.length_drop] at h1
    have h2 := gv_top (fun e => by rw [e] at hk; simp at hk; omega) hb.nz
    rw [hb.val, hk] at h2
    have h3 : 1000000000 ^ (ps.length - Lq) ≤ 1000000000 ^ (k - 1) := Nat.pow_le_pow_right (by omega) (by omega)
    simp [gv]
    omega
/-- The digits that the guess looks at. -/
theorem win_top {s : List Nat} {k ak a2 a3 : Nat} (h0 : s[k + 2]? = some ak) (h1 : s[k + 1]? = some a2) (h2 : s[k]? = some a3) (hz : gv (s.drop (k + 2 + 1)) = 0) :
    gv s = 1000000000 ^ k * ((ak * 1000000000 + a2) * 1000000000 + a3) + gv (s.take k) := by
  have hk := (List.getElem?_eq_some_iff.1 h2).1
  rw [gv_split s k (by omega), gv_drop s k a3 h2, gv_drop s (k + 1) a2 h1, gv_drop s (k + 2) ak h0, hz, Nat.mul_zero, Nat.add_zero, Nat.add_comm]
  congr 2
  omega
theorem div_top {bs : List Nat} {k b1 b2 : Nat} (hl : bs.length = k + 2) (h1 : bs[k + 1]? = some b1) (h2 : bs[k]? = some b2) : gv bs = 1000000000 ^ k * (b1 * 1000000000 + b2) + gv (bs.take k) := by
  rw [gv_split bs k (by omega), gv_drop bs k b2 h2, gv_drop bs (k + 1) b1 h1, List.drop_of_length_le (by omega)]
  simp only [gv, Nat.mul_zero, Nat.add_zero]
  rw [Nat.add_comm]
  congr 2
  omega
theorem Mag.top_ne {bs : List Nat} {D k b1 : Nat} (h : Mag bs D) (hl : bs.length = k + 1) (h1 : bs[k]? = some b1) : 1 ≤ b1 := by
  rcases Nat.eq_zero_or_pos b1 with h0 | h0
  · exfalso
    subst h0
    apply h.nz
    rw [List.getLast?_eq_getElem?, hl]
    exact h1
  · exact h0
theorem gv_take_le {s : List Nat} {k : Nat} (h : Gs s) (hk : k ≤ s.length) : gv (s.take k) < 1000000000 ^ k := by
  have := gv_lt (h.take k)
  rwa [List.length_take, Nat.min_eq_left hk] at this
end Go.Proofs.YtaiikjgoofefgaaGreatDoor
