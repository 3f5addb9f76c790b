/- Merged texts: N1, Tb, Kp, Dg, M1. -/
import Derived.Test.YtpnncoinlopndaaGreatDoorShelf
import Derived.Test.YtpnncoinlopndaaGreatDoorBaseqGTn
import Derived.Shelf.Strings.SlTrimAscii
import Derived.Lib.ItoaNum
import Derived.Lib.LaidTab
import Derived.Lib.AppendIntMem
namespace Go.Proofs.YtpnncoinlopndaaGreatDoor
open Go.RowKit Go.Shelf
def S (l : List UInt8) : Value := .string ⟨l.toArray⟩
def isDig (b : UInt8) : Bool := 48 ≤ b && b ≤ 57
def digL (a : List UInt8) : List UInt8 × Bool :=
  let s := Lib.trimPrefix a [45]
  if s.all isDig then (s.dropWhile (· == 48), Lib.hasPrefix a [45] && !(s.dropWhile (· == 48)).isEmpty) else ([], false)
def canonL (a : List UInt8) : List UInt8 := if (digL a).2 then 45 :: (digL a).1 else (digL a).1
def digSet : List UInt8 := [48, 49, 50, 51, 52, 53, 54, 55, 56, 57]
theorem digSet_contains (b : UInt8) : digSet.contains b = isDig b := by
  have h : ∀ n : Fin 256, digSet.contains (UInt8.ofNat n.val) = isDig (UInt8.ofNat n.val) := by decide +kernel
  have := h ⟨b.toNat, b.toNat_lt⟩
  simpa using this
theorem dropWhile_nil {α : Type} (p : α → Bool) (l : List α) : l.dropWhile p = [] ↔ l.all p = true := by
  induction l with
  | nil => simp
  | cons a l ih =>
    rw [List.dropWhile_cons]
    cases h : p a <;> simp [h] at ih ⊢
    exact ih
theorem dropWhile_head {α : Type} (p : α → Bool) (l : List α) (h : l.dropWhile p ≠ []) : p ((l.dropWhile p).head h) = false := by
  induction l with
  | nil => simp at h
  | cons a l ih =>
    cases hp : p a with
    | true =>
      have e : (a :: l).dropWhile p = l.dropWhile p := by rw [List.dropWhile_cons, hp]; rfl
      simp only [e] at h ⊢
      exact ih h
    | false =>
      have e : (a :: l).dropWhile p = a :: l := by rw [List.dropWhile_cons, hp]; rfl
      simp only [e, List.head_cons]
      exact hp
theorem trimS_nil (s : List UInt8) : (Lib.trimS s digSet = []) ↔ s.all isDig = true := by
  have hc : (fun x => digSet.contains x) = isDig := funext digSet_contains
  unfold Lib.trimS Lib.trimLeftS Lib.trimRightS
  rw [hc, dropWhile_nil]
  constructor
  · intro h
    by_cases hn : s.reverse.dropWhile isDig = []
    · rw [dropWhile_nil] at hn; simpa using hn
    · have h1 := dropWhile_head isDig s.reverse hn
      rw [List.all_reverse, List.all_eq_true] at h
      rw [h _ (List.head_mem hn)] at h1
      cases h1
  · intro h
    have : s.reverse.dropWhile isDig = [] := by rw [dropWhile_nil]; simpa using h
    rw [this]; rfl
theorem str_size (l : List UInt8) : (⟨l.toArray⟩ : ByteArray).size = l.length := by simp [ByteArray.size]
theorem trim_any (s : List UInt8) (w : World) (hs : s.length ≤ 1000000000) :
    Calls Tryz.prog 190 #[S s, .string ⟨#[48, 49, 50, 51, 52, 53, 54, 55, 56, 57]⟩] w fun e w' => e = .returned (S (Lib.trimS s digSet)) ∧ Below w.heap.size w w' := by
  by_cases h0 : s.length = 0
  · refine (Any.strings_Trim_empty Tryz.lays160 ⟨s.toArray⟩ _ w (.inl (by rw [str_size]; exact h0))).mono ?_
    rintro e w' ⟨rfl, rfl⟩
    obtain rfl : s = [] := List.eq_nil_of_length_eq_zero h0
    exact ⟨rfl, Below.refl _ _⟩
  · refine (Any.strings_Trim_set Tryz.lays160 (fun _ => by kernel_rfl) (by kernel_rfl) ⟨s.toArray⟩ ⟨#[48, 49, 50, 51, 52, 53, 54, 55, 56, 57]⟩ w (by decide) (by rw [str_size]; omega) (by rw [str_size]; omega) (by decide) (fun j b hb => ?_)).mono ?_
    · have h1 : ∀ b ∈ ([48, 49, 50, 51, 52, 53, 54, 55, 56, 57] : List UInt8), b.toNat < 128 := by decide
      exact h1 b (List.mem_of_getElem? hb)
    · rintro e w' ⟨rfl, q, rfl⟩
      exact ⟨rfl, bdN (((Below.refl _ w).alloc (Nat.le_refl _) _).alloc (by simp) _) q⟩
theorem trimPrefix_len (a p : List UInt8) : (Lib.trimPrefix a p).length ≤ a.length := by
  unfold Lib.trimPrefix
  split
  · rw [List.length_drop]; omega
  · omega
theorem S_toList (l : List UInt8) : (⟨l.toArray⟩ : ByteArray).data.toList = l := by simp
set_option maxHeartbeats 400000 in
theorem digits_any (a : List UInt8) (w : World) (ha : a.length ≤ 1000000000) :
    Calls Tryz.prog 153 #[S a] w fun e w' => e = .returned (.tuple #[S (digL a).1, .bool (digL a).2]) ∧ Below w.heap.size w w' := by
  have HC := Lib.hid (show ∀ W, Calls Tryz.prog 189 #[.string ⟨a.toArray⟩, .string ⟨#[45]⟩] W fun e w' => e = .returned (.tuple #[.string ⟨(Lib.trimPrefix a [45]).toArray⟩, .bool (Lib.hasPrefix a [45])]) ∧ w' = W from fun W => Tryz.strings_CutPrefix ⟨a.toArray⟩ ⟨#[45]⟩ W)
  have hl := trimPrefix_len a [45]
  have HDG := Lib.hid (show digL a = if (Lib.trimPrefix a [45]).all isDig then ((Lib.trimPrefix a [45]).dropWhile (· == 48), Lib.hasPrefix a [45] && !((Lib.trimPrefix a [45]).dropWhile (· == 48)).isEmpty) else ([], false) from rfl)
  generalize Lib.trimPrefix a [45] = s at *
  generalize Lib.hasPrefix a [45] = neg at *
  have HT := Lib.hid (show ∀ W, Calls Tryz.prog 191 #[.string ⟨s.toArray⟩, .string ⟨#[48]⟩] W fun e w' => e = .returned (.string ⟨(s.dropWhile (· == 48)).toArray⟩) ∧ w' = W from fun W => Tryz.strings_TrimLeft_one ⟨s.toArray⟩ 48 (by decide) W)
  have HM := Lib.hid (fun W => trim_any s W (by omega))
  unfold S at *
  cases hall : s.all isDig with
  | true =>
    rw [hall] at HDG
    simp only [if_true] at HDG
    have hn := (trimS_nil s).2 hall
    rw [hn] at HM
    clear hall hn
    generalize s.dropWhile (· == 48) = t at *
    by_cases htn : t = []
    · subst htn
      cases neg <;> (
        go_enter Tryz.func153, Tryz.ntmps153
        go_wp2_with (first
          | (go_at_call 189; refine (HC.out _).mono ?_; rintro e w1 ⟨rfl, rfl⟩)
          | (go_at_call 190; refine (HM.out _).mono ?_; rintro e w2 ⟨rfl, hb2⟩)
          | (go_at_call 191; refine (HT.out _).mono ?_; rintro e w3 ⟨rfl, rfl⟩))
        go_ret2
        rw [HDG.out]
        exact ⟨rfl, hb2⟩)
    · have hte : t.isEmpty = false := by cases t with | nil => exact absurd rfl htn | cons _ _ => rfl
      have hte2 : (⟨t.toArray⟩ : ByteArray).toList.isEmpty = false := by rw [Lib.toList_data]; simpa using hte
      have hte3 : (!(⟨t.toArray⟩ : ByteArray).toList.isEmpty) = true := by rw [hte2]; rfl
      cases neg <;> (
        go_enter Tryz.func153, Tryz.ntmps153
        go_wp2_with (first
          | (go_at_call 189; refine (HC.out _).mono ?_; rintro e w1 ⟨rfl, rfl⟩)
          | (go_at_call 190; refine (HM.out _).mono ?_; rintro e w2 ⟨rfl, hb2⟩)
          | (go_at_call 191; refine (HT.out _).mono ?_; rintro e w3 ⟨rfl, rfl⟩))
        go_ret2
        rw [HDG.out, hte]
        exact ⟨rfl, hb2⟩)
  | false =>
    rw [hall] at HDG
    simp only [Bool.false_eq_true, if_false] at HDG
    have hn : Lib.trimS s digSet ≠ [] := fun h => by rw [(trimS_nil s).1 h] at hall; cases hall
    clear hall
    generalize Lib.trimS s digSet = t at *
    have hte : t.isEmpty = false := by cases t with | nil => exact absurd rfl hn | cons _ _ => rfl
    have hte2 : (⟨t.toArray⟩ : ByteArray).toList.isEmpty = false := by rw [Lib.toList_data]; simpa using hte
    have hte3 : (!(⟨t.toArray⟩ : ByteArray).toList.isEmpty) = true := by rw [hte2]; rfl
    go_enter Tryz.func153, Tryz.ntmps153
    go_wp2_with (first
      | (go_at_call 189; refine (HC.out _).mono ?_; rintro e w1 ⟨rfl, rfl⟩)
      | (go_at_call 190; refine (HM.out _).mono ?_; rintro e w2 ⟨rfl, hb2⟩))
    go_ret2
    rw [HDG.out]
    exact ⟨rfl, hb2⟩
theorem dropWhile_len {α : Type} (p : α → Bool) (l : List α) : (l.dropWhile p).length ≤ l.length := by
  induction l with
  | nil => simp
  | cons a l ih =>
    rw [List.dropWhile_cons]
    split
    · rw [List.length_cons]; omega
    · exact Nat.le_refl _
theorem digL_len (a : List UInt8) : (digL a).1.length ≤ a.length := by
  unfold digL
  simp only
  split
  · exact Nat.le_trans (dropWhile_len _ _) (trimPrefix_len a [45])
  · simp
def ofL (n : Int) : List UInt8 := canonL (Lib.itoa n)
theorem decDigits_len (u : Nat) (h : u < 10 ^ 19) : (Lib.decDigits u).length ≤ 19 := by
  have : ∀ k u, u < 10 ^ (k + 1) → (Lib.decDigits u).length ≤ k + 1 := by
    intro k
    induction k with
    | zero => intro u h; rw [Lib.decDigits, dif_pos (by omega)]; simp
    | succ k ih =>
      intro u h
      rw [Lib.decDigits]
      split
      · simp
      · rw [List.length_append]
        have := ih (u / 10) (by rw [Nat.pow_succ] at h; omega)
        simp; omega
  exact this 18 u h
end Go.Proofs.YtpnncoinlopndaaGreatDoor

namespace Go.Proofs.YtpnncoinlopndaaGreatDoor
open Go.RowKit Go.Shelf
def Pow (w : World) : Prop := Lib.TabIs Tryz.prog w "internal/strconv.uint64pow10" .u64 Lib.pow10Tab
theorem Pow.here {w w' : World} (h : Pow w) (hb : Below w.heap.size w w') : Pow w' := Lib.tabBelow_of_tabIs h w' hb
end Go.Proofs.YtpnncoinlopndaaGreatDoor

namespace Go.Proofs.YtpnncoinlopndaaGreatDoor
open Go.RowKit Go.Shelf
def BlkB (w : World) (p : Nat) (cs : Array Value) (T : TypeId) : Prop := w.heap[p]? = some (.cells cs T (0, 0))
section
variable {w w' W W' : World} {p : Nat} {cs : Array Value} {T : TypeId}
theorem BlkB.lt (h : BlkB w p cs T) : p < w.heap.size := (Array.getElem?_eq_some_iff.1 h).1
theorem BlkB.cell (h : BlkB w p cs T) (j : Nat) {v : Value} (hj : cs[j]? = some v) : w.cell? ⟨p, j, none⟩ = some v := (cell_of_row w p j cs T (0, 0) h).trans hj
theorem BlkB.frozen (h : BlkB w p cs T) (j : Nat) : w.frozen? ⟨p, j, none⟩ = false := by
  unfold BlkB at h
  simp [World.frozen?, h]
theorem BlkB.here (h : BlkB w p cs T) (hb : Below w.heap.size w w') : BlkB w' p cs T := (hb.block p h.lt).trans h
theorem BlkB.alloc (h : BlkB w p cs T) (o : Obj) : BlkB (w.alloc o) p cs T := (Below.heap_alloc w o p h.lt).trans h
theorem BlkB.far (h : BlkB w p cs T) {a : Addr} (hp : p ≠ a.block) (u : Value) : BlkB (w.setCell a u) p cs T := (Below.heap_setCell w a u p hp).trans h
theorem BlkB.set (h : BlkB w p cs T) (j : Nat) (u : Value) : BlkB (w.setCell ⟨p, j, none⟩ u) p (cs.setIfInBounds j u) T := heap_setCell_same w p j cs T u h
end
theorem var_here {w w' : World} {name : String} {v : Array Value} (h : w.var? Tryz.prog name = some v) (hb : Below w.heap.size w w') : w'.var? Tryz.prog name = some v := by
  unfold World.var? at *
  cases hg : Tryz.prog.globalNamed name with
  | none => simp [hg] at h
  | some g =>
    simp only [hg, Option.bind_some] at h ⊢
    have hlt : g < w.heap.size := by
      rcases Nat.lt_or_ge g w.heap.size with h' | h'
      · exact h'
      · rw [Array.getElem?_eq_none h'] at h; simp at h
    rw [hb.block g hlt]
    exact h
structure Env (w : World) : Prop where
  pow : Pow w
  syn : ∃ tp p, w.var? Tryz.prog "strconv.ErrSyntax" = some #[.iface tp p]
  rng : ∃ tp p, w.var? Tryz.prog "strconv.ErrRange" = some #[.iface tp p]
theorem Env.here {w w' : World} (h : Env w) (hb : Below w.heap.size w w') : Env w' :=
  ⟨h.pow.here hb, h.syn.elim fun tp h1 => h1.elim fun p h2 => ⟨tp, p, var_here h2 hb⟩, h.rng.elim fun tp h1 => h1.elim fun p h2 => ⟨tp, p, var_here h2 hb⟩⟩
section
variable {w w' W W' : World} {p : Nat} {cs : Array Value} {T : TypeId}
structure Kp (w : World) (bs : List (Nat × Array Value × TypeId)) (W : World) : Prop where
  pow : Env w
  bl : Below w.heap.size w W
  own : ∀ b ∈ bs, w.heap.size ≤ b.1
  ord : (bs.map (·.1)).Pairwise (fun a b => a ≠ b)
  blk : ∀ b ∈ bs, BlkB W b.1 b.2.1 b.2.2
variable {bs : List (Nat × Array Value × TypeId)}
theorem Kp.start (hp : Env w) : Kp w [] w := ⟨hp, Below.refl _ _, fun _ h => by simp at h, .nil, fun _ h => by simp at h⟩
theorem Kp.pw (h : Kp w bs W) : Env W := h.pow.here h.bl
theorem Kp.po (h : Kp w bs W) : Pow W := h.pw.pow
theorem Kp.here (h : Kp w bs W) (hb : Below W.heap.size W W') : Kp w bs W' :=
  ⟨h.pow, h.bl.trans (hb.mono h.bl.size), h.own, h.ord, fun b hm => (h.blk b hm).here hb⟩
theorem Kp.drew (h : Kp w bs W) : Kp w bs W.drew := h.here (Below.refl _ W).drew
theorem Kp.drewN (h : Kp w bs W) (n : Nat) : Kp w bs (W.drewN n) := h.here (bdN (Below.refl _ W) n)
theorem Kp.alloc (h : Kp w bs W) (o : Obj) : Kp w bs (W.alloc o) := h.here ((Below.refl _ W).alloc (Nat.le_refl _) o)
theorem Kp.new (h : Kp w bs W) (p : Nat) (hp : p = W.heap.size) (cs : Array Value) (T : TypeId) : Kp w ((p, cs, T) :: bs) (W.alloc (.cells cs T)) := by
  subst hp
  have h' := h.alloc (.cells cs T)
  refine ⟨h'.pow, h'.bl, ?_, ?_, ?_⟩
  · intro b hb
    rcases List.mem_cons.1 hb with rfl | hb
    · exact h.bl.size
    · exact h.own b hb
  · refine .cons (fun b hb => ?_) h.ord
    obtain ⟨x, hx, rfl⟩ := List.mem_map.1 hb
    exact fun e => Nat.lt_irrefl _ (e ▸ (h.blk x hx).lt)
  · intro b hb
    rcases List.mem_cons.1 hb with rfl | hb
    · exact heap_alloc_new W _
    · exact h'.blk b hb
theorem Kp.at_ (h : Kp w bs W) (i : Nat) (hb : bs[i]? = some (p, cs, T)) : BlkB W p cs T := h.blk _ (List.mem_of_getElem? hb)
theorem Kp.c (h : Kp w bs W) (i j : Nat) {v : Value} (hb : bs[i]? = some (p, cs, T)) (hv : cs[j]? = some v) : W.cell? ⟨p, j, none⟩ = some v := (h.at_ i hb).cell j hv
theorem Kp.f (h : Kp w bs W) (i j : Nat) (hb : bs[i]? = some (p, cs, T)) : W.frozen? ⟨p, j, none⟩ = false := (h.at_ i hb).frozen j
theorem Kp.lt (h : Kp w bs W) (i : Nat) (hb : bs[i]? = some (p, cs, T)) : p < W.heap.size := (h.at_ i hb).lt
theorem Kp.old (h : Kp w bs W) (i : Nat) (hb : bs[i]? = some (p, cs, T)) : w.heap.size ≤ p := h.own _ (List.mem_of_getElem? hb)
theorem Kp.ne (h : Kp w bs W) (i k : Nat) {q : Nat} {ds : Array Value} {U : TypeId} (hb : bs[i]? = some (p, cs, T)) (hc : bs[k]? = some (q, ds, U)) (hik : i ≠ k) : p ≠ q := by
  have hi := (List.getElem?_eq_some_iff.1 hb).1
  have hk := (List.getElem?_eq_some_iff.1 hc).1
  have hb' := (List.getElem?_eq_some_iff.1 hb).2
  have hc' := (List.getElem?_eq_some_iff.1 hc).2
  have ho := List.pairwise_iff_getElem.1 h.ord
  rcases Nat.lt_or_ge i k with h1 | h1
  · have := ho i k (by simpa using hi) (by simpa using hk) h1
    simp only [List.getElem_map, hb', hc'] at this
    exact this
  · have := ho k i (by simpa using hk) (by simpa using hi) (by omega)
    simp only [List.getElem_map, hb', hc'] at this
    exact fun e => this e.symm
theorem Kp.set (h : Kp w bs W) (i j : Nat) (hb : bs[i]? = some (p, cs, T)) (v : Value) : Kp w (bs.set i (p, cs.setIfInBounds j v, T)) (W.setCell ⟨p, j, none⟩ v) := by
  have hbl := (Below.refl w.heap.size W).setCell (p := ⟨p, j, none⟩) (h.old i hb) v
  have hm : (bs.set i (p, cs.setIfInBounds j v, T)).map (·.1) = bs.map (·.1) := by
    refine List.ext_getElem? fun k => ?_
    rw [List.getElem?_map, List.getElem?_map, List.getElem?_set]
    split
    · rename_i e
      subst e
      rw [hb]
      split
      · rfl
      · rename_i e2; exact absurd (List.getElem?_eq_some_iff.1 hb).1 e2
    · rfl
  refine ⟨h.pow, h.bl.trans hbl, ?_, by rw [hm]; exact h.ord, ?_⟩
  · intro b hx
    rcases List.mem_or_eq_of_mem_set hx with hx | rfl
    · exact h.own b hx
    · exact h.old i hb
  · intro b hx
    obtain ⟨k, hk⟩ := List.getElem?_of_mem hx
    rw [List.getElem?_set] at hk
    split at hk
    · split at hk
      · injection hk with hk
        subst hk
        exact (h.at_ i hb).set j v
      · cases hk
    · rename_i hik
      obtain ⟨q, ds, U⟩ := b
      exact (h.at_ k hk).far (a := ⟨p, j, none⟩) (h.ne k i hk hb (fun e => hik e.symm)) v
end
def Gives (f : FuncId) (args : Array Value) (r : Value) : Prop := ∀ W, Env W → Calls Tryz.prog f args W fun e w' => e = .returned r ∧ Below W.heap.size W w'
end Go.Proofs.YtpnncoinlopndaaGreatDoor

namespace Go.Proofs.YtpnncoinlopndaaGreatDoor
open Go.RowKit Go.Shelf
def txtL (n : Int) : List UInt8 := if n = 0 then [] else if n < 0 then 45 :: Lib.decDigits n.natAbs else Lib.decDigits n.natAbs
def digs (m : Nat) : List UInt8 := if m = 0 then [] else Lib.decDigits m
theorem digs_step (m : Nat) (h : m ≠ 0) : digs m = digs (m / 10) ++ [UInt8.ofNat (48 + m % 10)] := by
  unfold digs
  rw [if_neg h, Lib.decDigits]
  split
  · rename_i hlt
    rw [if_pos (by omega), show m % 10 = m by omega]; rfl
  · rename_i hlt
    rw [if_neg (by omega)]
theorem enc_dig (r : Nat) (h : r < 10) : Utf8.encode (48 + (r : Int)) = ⟨#[UInt8.ofNat (48 + r)]⟩ := by
  have : ∀ r : Fin 10, Utf8.encode (48 + (r.val : Int)) = ⟨#[UInt8.ofNat (48 + r.val)]⟩ := by decide +kernel
  exact this ⟨r, h⟩
theorem enc_mod (k : Nat) : Utf8.encode (48 + (k : Int) % 10) = ⟨#[UInt8.ofNat (48 + k % 10)]⟩ := by
  have := enc_dig (k % 10) (by omega)
  rwa [show ((k % 10 : Nat) : Int) = (k : Int) % 10 by omega] at this
theorem enc_mod_size (k : Nat) : (Utf8.encode (48 + (k : Int) % 10)).size ≤ 1 := by rw [enc_mod]; exact Nat.le_refl _
theorem digs_len (m : Nat) (h : m < 10 ^ 19) : (digs m).length ≤ 19 := by
  unfold digs
  split
  · simp
  · exact decDigits_len m h
theorem digs_pos (m : Nat) (h : m ≠ 0) : 1 ≤ (digs m).length := by rw [digs_step m h, List.length_append]; simp
theorem mk_append (a b : List UInt8) : (⟨a.toArray⟩ : ByteArray) ++ ⟨b.toArray⟩ = ⟨(a ++ b).toArray⟩ := ByteArray.mk_append_mk a b
theorem isDig_dec (d : Nat) (h : d < 10) : isDig (UInt8.ofNat (48 + d)) = true := by
  have : ∀ d : Fin 10, isDig (UInt8.ofNat (48 + d.val)) = true := by decide +kernel
  exact this ⟨d, h⟩
theorem digs_dig (m : Nat) : (digs m).all isDig = true := by
  induction m using Nat.strongRecOn with
  | _ m ih =>
    by_cases h : m = 0
    · subst h; rfl
    · rw [digs_step m h, List.all_append, ih (m / 10) (by omega)]
      simp only [List.all_cons, List.all_nil, Bool.and_true, Bool.true_and]
      exact isDig_dec (m % 10) (by omega)
theorem digs_head (m : Nat) (h : m ≠ 0) : ∃ b l, digs m = b :: l ∧ (b == 48) = false ∧ (b == 45) = false := by
  induction m using Nat.strongRecOn with
  | _ m ih =>
    rw [digs_step m h]
    by_cases h10 : m / 10 = 0
    · rw [h10]
      refine ⟨UInt8.ofNat (48 + m % 10), [], rfl, ?_, ?_⟩
      · have : ∀ d : Fin 10, d.val ≠ 0 → (UInt8.ofNat (48 + d.val) == 48) = false := by decide +kernel
        exact this ⟨m % 10, by omega⟩ (by simp only; omega)
      · have : ∀ d : Fin 10, (UInt8.ofNat (48 + d.val) == 45) = false := by decide +kernel
        exact this ⟨m % 10, by omega⟩
    · obtain ⟨b, l, e, h1, h2⟩ := ih (m / 10) (by omega) h10
      rw [e]
      exact ⟨b, l ++ [UInt8.ofNat (48 + m % 10)], rfl, h1, h2⟩
theorem canon_digs (m : Nat) (h : m ≠ 0) : digL (digs m) = (digs m, false) := by
  obtain ⟨b, l, e, h1, h2⟩ := digs_head m h
  have hall := digs_dig m
  have hp : Lib.hasPrefix (digs m) [45] = false := by
    rw [e]; unfold Lib.hasPrefix
    have h3 : (45 == b) = false := by
      rw [Bool.eq_false_iff] at h2 ⊢
      intro hh; apply h2; simp at hh ⊢; exact hh.symm
    simp [List.isPrefixOf, h3]
  have ht : Lib.trimPrefix (digs m) [45] = digs m := by unfold Lib.trimPrefix; rw [hp]; rfl
  unfold digL
  simp only [ht, hall, hp, if_true, Bool.false_and]
  rw [e, List.dropWhile_cons, h1]
  rfl
theorem ofL_nat (m : Nat) : ofL (m : Int) = digs m := by
  unfold ofL Lib.itoa
  rw [if_neg (by omega)]
  by_cases h : m = 0
  · subst h
    show canonL (Lib.decDigits 0) = _
    rw [Lib.decDigits, dif_pos (by omega)]
    decide +kernel
  · have e : Lib.decDigits (Int.toNat (m : Int)) = digs m := by unfold digs; rw [if_neg h]; simp
    rw [e]
    unfold canonL
    rw [canon_digs m h]
    rfl
theorem txtL_nat (m : Nat) : txtL (m : Int) = digs m := by
  unfold txtL digs
  by_cases h : m = 0
  · subst h; rfl
  · rw [if_neg (by omega), if_neg (by omega), if_neg h]; simp
end Go.Proofs.YtpnncoinlopndaaGreatDoor

namespace Go.Proofs.YtpnncoinlopndaaGreatDoor
open Go.RowKit Go.Shelf
def gv : List Nat → Nat
  | [] => 0
  | x :: xs => x + 1000000000 * gv xs
def Gs (xs : List Nat) : Prop := ∀ x ∈ xs, x < 1000000000
def Nz (xs : List Nat) : Prop := xs.getLast? ≠ some 0
structure Mag (xs : List Nat) (v : Nat) : Prop where
  gs : Gs xs
  nz : Nz xs
  val : gv xs = v
theorem gv_append (xs ys : List Nat) : gv (xs ++ ys) = gv xs + 1000000000 ^ xs.length * gv ys := by
  induction xs with
  | nil => simp [gv]
  | cons x xs ih =>
    rw [List.cons_append, gv, ih, gv, List.length_cons, Nat.pow_succ, Nat.mul_add, Nat.add_assoc, ← Nat.mul_assoc, Nat.mul_comm (1000000000 ^ xs.length) 1000000000]
theorem gv_snoc (xs : List Nat) (g : Nat) : gv (xs ++ [g]) = gv xs + 1000000000 ^ xs.length * g := by rw [gv_append]; simp [gv]
theorem Gs.nil : Gs [] := fun x hx => by cases hx
theorem Gs.snoc {xs : List Nat} {g : Nat} (h : Gs xs) (hg : g < 1000000000) : Gs (xs ++ [g]) := fun x hx => by
  rcases List.mem_append.1 hx with h1 | h1
  · exact h x h1
  · simp at h1; rw [h1]; exact hg
theorem Gs.take {xs : List Nat} (h : Gs xs) (k : Nat) : Gs (xs.take k) := fun x hx => h x (List.mem_of_mem_take hx)
theorem Gs.at_ {xs : List Nat} (h : Gs xs) {i g : Nat} (hi : xs[i]? = some g) : g < 1000000000 := h g (List.mem_of_getElem? hi)
theorem gv_lt {xs : List Nat} (h : Gs xs) : gv xs < 1000000000 ^ xs.length := by
  induction xs with
  | nil => simp [gv]
  | cons x xs ih =>
    have h1 := ih (fun y hy => h y (by simp [hy]))
    have h2 := h x (by simp)
    rw [gv, List.length_cons, Nat.pow_succ]
    omega
theorem gv_top {xs : List Nat} (hn : xs ≠ []) (h : Nz xs) : 1000000000 ^ (xs.length - 1) ≤ gv xs := by
  obtain ⟨ys, g, rfl⟩ : ∃ ys g, xs = ys ++ [g] := ⟨xs.dropLast, xs.getLast hn, (List.dropLast_concat_getLast hn).symm⟩
  have hg : g ≠ 0 := fun e => h (by rw [e]; simp)
  rw [gv_snoc, List.length_append, List.length_singleton, Nat.add_sub_cancel]
  exact Nat.le_trans (Nat.le_mul_of_pos_right _ (by omega)) (Nat.le_add_left _ _)
theorem gv_take (xs : List Nat) (i : Nat) (g : Nat) (h : xs[i]? = some g) : gv (xs.take (i + 1)) = gv (xs.take i) + 1000000000 ^ i * g := by
  obtain ⟨hi, rfl⟩ := List.getElem?_eq_some_iff.1 h
  rw [List.take_succ_eq_append_getElem hi, gv_snoc, List.length_take, Nat.min_eq_left (by omega)]
theorem gv_drop (xs : List Nat) (i : Nat) (g : Nat) (h : xs[i]? = some g) : gv (xs.drop i) = g + 1000000000 * gv (xs.drop (i + 1)) := by
  obtain ⟨hi, rfl⟩ := List.getElem?_eq_some_iff.1 h
  rw [List.drop_eq_getElem_cons hi, gv]
theorem gv_split (xs : List Nat) (i : Nat) (hi : i ≤ xs.length) : gv xs = gv (xs.take i) + 1000000000 ^ i * gv (xs.drop i) := by
  have := gv_append (xs.take i) (xs.drop i)
  rw [List.take_append_drop, List.length_take, Nat.min_eq_left hi] at this
  exact this
theorem Mag.zero : Mag [] 0 := ⟨Gs.nil, by unfold Nz; simp, rfl⟩
theorem Mag.nil_iff {xs : List Nat} {v : Nat} (h : Mag xs v) : xs = [] ↔ v = 0 := by
  constructor
  · rintro rfl; exact h.val.symm
  · intro hv
    by_cases hn : xs = []
    · exact hn
    · have := gv_top hn h.nz
      rw [h.val, hv] at this
      have := Nat.pow_pos (n := xs.length - 1) (show 0 < 1000000000 by decide)
      omega
theorem Mag.len {xs : List Nat} {v k : Nat} (h : Mag xs v) (hv : v < 1000000000 ^ k) : xs.length ≤ k := by
  by_cases hn : xs = []
  · rw [hn]; simp
  · have h1 := gv_top hn h.nz
    rw [h.val] at h1
    have h2 := Nat.lt_of_le_of_lt h1 hv
    have := (Nat.pow_lt_pow_iff_right (show 1 < 1000000000 by decide)).1 h2
    omega
theorem snoc_ind {α : Type} {P : List α → Prop} (h0 : P []) (h1 : ∀ l b, P l → P (l ++ [b])) (l : List α) : P l := by
  have : ∀ l : List α, P l.reverse := by
    intro l
    induction l with
    | nil => exact h0
    | cons a l ih => rw [List.reverse_cons]; exact h1 _ _ ih
  have h := this l.reverse
  rwa [List.reverse_reverse] at h
def valD (l : List UInt8) : Nat := l.foldl (fun n b => 10 * n + (b.toNat - 48)) 0
theorem valD_foldl (l : List UInt8) (n : Nat) : l.foldl (fun n b => 10 * n + (b.toNat - 48)) n = n * 10 ^ l.length + valD l := by
  induction l generalizing n with
  | nil => simp [valD]
  | cons b l ih =>
    have e : valD (b :: l) = (10 * 0 + (b.toNat - 48)) * 10 ^ l.length + valD l := by unfold valD; rw [List.foldl_cons]; exact ih _
    rw [List.foldl_cons, ih, e, List.length_cons, Nat.pow_succ, Nat.add_mul, Nat.mul_comm 10 n, Nat.mul_assoc, Nat.mul_comm 10 (10 ^ l.length), Nat.mul_zero, Nat.zero_add, Nat.add_assoc]
theorem valD_append (l l' : List UInt8) : valD (l ++ l') = valD l * 10 ^ l'.length + valD l' := by
  unfold valD
  rw [List.foldl_append, valD_foldl]
  rfl
theorem valD_snoc (l : List UInt8) (b : UInt8) : valD (l ++ [b]) = 10 * valD l + (b.toNat - 48) := by
  rw [valD_append, Nat.mul_comm]; simp [valD]
theorem isDig_iff (b : UInt8) : isDig b = true ↔ 48 ≤ b.toNat ∧ b.toNat ≤ 57 := by
  unfold isDig
  simp [UInt8.le_iff_toNat_le]
theorem valD_lt {l : List UInt8} : l.all isDig = true → valD l < 10 ^ l.length := by
  refine snoc_ind (P := fun l => l.all isDig = true → valD l < 10 ^ l.length) ?_ ?_ l
  · intro _; simp [valD]
  · intro l b ih h
    rw [List.all_append] at h
    simp only [List.all_cons, List.all_nil, Bool.and_true, Bool.and_eq_true] at h
    have h1 := ih h.1
    have h2 := (isDig_iff b).1 h.2
    rw [valD_snoc, List.length_append, List.length_singleton, Nat.pow_succ]
    omega
theorem byte_dig (b : UInt8) (h : isDig b = true) : UInt8.ofNat (48 + (b.toNat - 48)) = b := by
  have h2 := (isDig_iff b).1 h
  rw [show 48 + (b.toNat - 48) = b.toNat by omega]
  simp
theorem valD_head {b : UInt8} {l : List UInt8} (h : (b :: l).all isDig = true) (hb : (b == 48) = false) : valD (b :: l) ≠ 0 := by
  have h1 : isDig b = true := by simp at h; exact h.1
  have h2 := (isDig_iff b).1 h1
  have h3 : b.toNat ≠ 48 := fun e => by
    have : b = 48 := UInt8.toNat_inj.1 e
    rw [this] at hb; simp at hb
  unfold valD
  rw [List.foldl_cons, valD_foldl]
  have := Nat.pow_pos (n := l.length) (show 0 < 10 by decide)
  have : 0 < (10 * 0 + (b.toNat - 48)) * 10 ^ l.length := Nat.mul_pos (by omega) this
  omega
theorem digs_valD {l : List UInt8} : l.all isDig = true → (∀ b t, l = b :: t → (b == 48) = false) → digs (valD l) = l := by
  refine snoc_ind (P := fun l => l.all isDig = true → (∀ b t, l = b :: t → (b == 48) = false) → digs (valD l) = l) ?_ ?_ l
  · intro _ _; simp [valD, digs]
  · intro l b ih h hz
    have h' := h
    rw [List.all_append] at h
    simp only [List.all_cons, List.all_nil, Bool.and_true, Bool.and_eq_true] at h
    have h2 := (isDig_iff b).1 h.2
    have hne : valD (l ++ [b]) ≠ 0 := by
      cases l with
      | nil => exact valD_head h' (hz b [] rfl)
      | cons c t => exact valD_head h' (hz c (t ++ [b]) rfl)
    rw [digs_step _ hne, valD_snoc, show (10 * valD l + (b.toNat - 48)) / 10 = valD l by omega, show (10 * valD l + (b.toNat - 48)) % 10 = b.toNat - 48 by omega, byte_dig b h.2, ih h.1 (fun c t e => hz c (t ++ [b]) (by rw [e]; rfl))]
theorem valD_digs (m : Nat) : valD (digs m) = m := by
  induction m using Nat.strongRecOn with
  | _ m ih =>
    by_cases h : m = 0
    · subst h; rfl
    · rw [digs_step m h, valD_snoc, ih (m / 10) (by omega)]
      have : (UInt8.ofNat (48 + m % 10)).toNat = 48 + m % 10 := by simp; omega
      omega
def val (a : List UInt8) : Int := if (digL a).2 then -(valD (digL a).1 : Int) else valD (digL a).1
theorem digL_ok (a : List UInt8) : (digL a).1.all isDig = true ∧ (∀ b t, (digL a).1 = b :: t → (b == 48) = false) ∧ ((digL a).2 = true → (digL a).1 ≠ []) := by
  unfold digL
  simp only
  split
  · rename_i h
    refine ⟨?_, ?_, ?_⟩
    · rw [List.all_eq_true] at h ⊢
      exact fun x hx => h x ((List.dropWhile_sublist _).subset hx)
    · intro b t e
      have e' : (Lib.trimPrefix a [45]).dropWhile (· == 48) = b :: t := e
      clear e
      have e := e'
      have hne : (Lib.trimPrefix a [45]).dropWhile (· == 48) ≠ [] := by rw [e]; simp
      have := dropWhile_head (· == 48) (Lib.trimPrefix a [45]) hne
      simp only [e, List.head_cons] at this
      exact this
    · intro hh
      simp only [Bool.and_eq_true, Bool.not_eq_true'] at hh
      intro e
      have e' : (Lib.trimPrefix a [45]).dropWhile (· == 48) = [] := e
      rw [e'] at hh
      simp at hh
  · simp
theorem digs_val (a : List UInt8) : (digL a).1 = digs (val a).natAbs := by
  obtain ⟨h1, h2, _⟩ := digL_ok a
  unfold val
  split
  · rw [Int.natAbs_neg, Int.natAbs_natCast, digs_valD h1 h2]
  · rw [Int.natAbs_natCast, digs_valD h1 h2]
theorem neg_val (a : List UInt8) : (digL a).2 = decide (val a < 0) := by
  obtain ⟨h1, h2, h3⟩ := digL_ok a
  unfold val
  cases hn : (digL a).2 with
  | false => simp
  | true =>
    have hne := h3 hn
    have hv : valD (digL a).1 ≠ 0 := by
      cases he : (digL a).1 with
      | nil => exact absurd he hne
      | cons b t => rw [he] at h1; exact valD_head h1 (h2 b t he)
    simp; omega
theorem txtL_digs (n : Int) : txtL n = (if n < 0 then [45] else []) ++ digs n.natAbs := by
  unfold txtL digs
  by_cases h : n = 0
  · subst h; rfl
  · rw [if_neg h, if_neg (by omega : n.natAbs ≠ 0)]
    split <;> rfl
theorem canon_val (a : List UInt8) : canonL a = txtL (val a) := by
  unfold canonL
  rw [neg_val, digs_val, txtL_digs]
  by_cases h : val a < 0
  · simp [h]
  · simp [h]
def padN : Nat → Nat → List UInt8
  | 0, _ => []
  | k + 1, g => padN k (g / 10) ++ [UInt8.ofNat (48 + g % 10)]
theorem padN_len (k g : Nat) : (padN k g).length = k := by
  induction k generalizing g with
  | zero => rfl
  | succ k ih => rw [padN, List.length_append, ih]; rfl
theorem digs_pad (k : Nat) : ∀ (x g : Nat), x ≠ 0 → g < 10 ^ k → digs (10 ^ k * x + g) = digs x ++ padN k g := by
  induction k with
  | zero => intro x g hx hg; simp at hg; subst hg; simp [padN]
  | succ k ih =>
    intro x g hx hg
    rw [Nat.pow_succ] at hg
    have e1 : 10 ^ (k + 1) * x + g = 10 * (10 ^ k * x + g / 10) + g % 10 := by
      rw [Nat.pow_succ, Nat.mul_add, ← Nat.mul_assoc, Nat.mul_comm 10 (10 ^ k)]; omega
    have hne : 10 ^ (k + 1) * x + g ≠ 0 := by
      have := Nat.mul_pos (Nat.pow_pos (n := k + 1) (show 0 < 10 by decide)) (Nat.pos_of_ne_zero hx)
      omega
    rw [digs_step _ hne, e1, show (10 * (10 ^ k * x + g / 10) + g % 10) / 10 = 10 ^ k * x + g / 10 by omega, show (10 * (10 ^ k * x + g / 10) + g % 10) % 10 = g % 10 by omega, ih x (g / 10) hx (by omega), padN, List.append_assoc]
theorem dec_pad (k : Nat) : ∀ g : Nat, g < 10 ^ (k + 1) → (Lib.decDigits g).length ≤ k + 1 ∧ List.replicate (k + 1 - (Lib.decDigits g).length) 48 ++ Lib.decDigits g = padN (k + 1) g := by
  induction k with
  | zero =>
    intro g hg
    rw [Lib.decDigits, dif_pos (by omega)]
    refine ⟨by simp, ?_⟩
    simp only [padN, List.nil_append]
    rw [Nat.mod_eq_of_lt (by omega)]
    rfl
  | succ k ih =>
    intro g hg
    rw [Nat.pow_succ] at hg
    by_cases h10 : g < 10
    · rw [Lib.decDigits, dif_pos h10]
      refine ⟨by simp, ?_⟩
      obtain ⟨i1, i2⟩ := ih (g / 10) (by omega)
      have e0 : g / 10 = 0 := by omega
      rw [e0, Lib.decDigits, dif_pos (by omega)] at i2
      rw [padN, e0, ← i2, Nat.mod_eq_of_lt h10]
      simp only [List.length_cons, List.length_nil, Nat.zero_add, Nat.add_sub_cancel]
      rw [List.replicate_succ', List.append_assoc, List.append_assoc]
      rfl
    · rw [Lib.decDigits, dif_neg h10]
      obtain ⟨i1, i2⟩ := ih (g / 10) (by omega)
      refine ⟨by rw [List.length_append]; simp; omega, ?_⟩
      rw [padN, ← i2, List.length_append, List.length_singleton, show k + 1 + 1 - ((Lib.decDigits (g / 10)).length + 1) = k + 1 - (Lib.decDigits (g / 10)).length by omega, List.append_assoc]
theorem digs_group (x g : Nat) (hx : x ≠ 0) (hg : g < 1000000000) : digs (g + 1000000000 * x) = digs x ++ (List.replicate (9 - (Lib.decDigits g).length) 48 ++ Lib.decDigits g) := by
  have h := digs_pad 9 x g hx (by omega)
  rw [(dec_pad 8 g (by omega)).2, ← h]
  congr 1
  omega
end Go.Proofs.YtpnncoinlopndaaGreatDoor

