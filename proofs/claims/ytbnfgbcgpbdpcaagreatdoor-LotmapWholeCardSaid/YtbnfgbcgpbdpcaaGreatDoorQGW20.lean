/- Merged texts: Lp9, Mq7, Lw2. -/
import Derived.Test.YtbnfgbcgpbdpcaaGreatDoorQGW19
import Derived.Test.YtbnfgbcgpbdpcaaGreatDoorMq5qGW
/- What a mapping makes of lots, plain: two mappings, one after the other. -/
namespace Go.Proofs.YtbnfgbcgpbdpcaaGreatDoor
open Go.RowKit Go.Shelf

def totL (l : List Lot) (i : List UInt8) (g : Lot → Int) : Int := ((lotsOf l i).map g).sum
theorem totL_append (l k : List Lot) (i : List UInt8) (g : Lot → Int) : totL (l ++ k) i g = totL l i g + totL k i g := by
  unfold totL lotsOf
  rw [List.filter_append, List.map_append, sum_append_]
theorem totL_same {l : List Lot} {i : List UInt8} (h : ∀ z ∈ l, z.inst = i) (k : List UInt8) (g : Lot → Int) : totL l k g = if k = i then (l.map g).sum else 0 := by
  unfold totL lotsOf
  split
  · rename_i e
    subst e
    rw [List.filter_eq_self.2 (fun z hz => by simp [h z hz])]
  · rename_i e
    rw [List.filter_eq_nil_iff.2 (fun z hz => by rw [h z hz]; simpa using fun e2 => e e2.symm)]
    rfl
theorem kept_gone {m : Mp} (hk : m.keep = false) (ms : List Int) (k : Nat) (l : List Lot) : keptL m ms k l = l.filter (fun z => decide (z.inst ≠ m.inst)) := by
  induction l generalizing k with
  | nil => rfl
  | cons a l ih =>
    unfold keptL
    by_cases ha : a.inst = m.inst
    · rw [if_pos ha, if_neg (by rw [hk]; simp), List.filter_cons, if_neg (by simp [ha]), ih]
    · rw [if_neg ha, List.filter_cons, if_pos (by simp [ha]), ih]
theorem totL_gone (m : Mp) (l : List Lot) (i : List UInt8) (g : Lot → Int) : totL (l.filter (fun z => decide (z.inst ≠ m.inst))) i g = if i = m.inst then 0 else totL l i g := by
  unfold totL lotsOf
  rw [List.filter_filter]
  split
  · rename_i e
    subst e
    rw [List.filter_eq_nil_iff.2]
    · rfl
    · intro z _
      by_cases h : z.inst = m.inst <;> simp [h]
  · rename_i e
    congr 2
    refine List.filter_congr fun z _ => ?_
    by_cases h : z.inst = i
    · subst h; simp [e]
    · simp [h]
/-- What a mapping that keeps nothing, and leaves no fraction, does to totals. -/
theorem mapL_tot {ls : List Lot} {m : Mp} (hk : m.keep = false) (hok : (mapL ls m).2 = 0) (hp : ((totL ls m.inst (fun z => val z.q) : Int) : Rat) * m.ratio.rat - ((flo (((totL ls m.inst (fun z => val z.q) : Int) : Rat) * m.ratio.rat) : Int) : Rat) = 0) (i : List UInt8) :
    totL (mapL ls m).1.lots i (fun z => val z.q) = (if i = m.inst then 0 else totL ls i (fun z => val z.q)) + (if i = m.other then flo (((totL ls m.inst (fun z => val z.q) : Int) : Rat) * m.ratio.rat) else 0) ∧
    totL (mapL ls m).1.lots i (fun z => val z.c) = (if i = m.inst then 0 else totL ls i (fun z => val z.c)) + (if i = m.other then totL ls m.inst (fun z => val z.c) else 0) := by
  rcases mapL_case ls m with ⟨e, he, h⟩ | ⟨hl, hm, ho, h⟩ | ⟨A, B, hM, h⟩
  · rw [h] at hok; exact absurd hok he
  · rw [h]
    have t0 : ∀ g, totL ls m.inst g = 0 := fun g => by unfold totL; rw [ho]; rfl
    have f0 : flo (((0 : Int) : Rat) * m.ratio.rat) = 0 := by
      rw [show ((0 : Int) : Rat) = 0 from rfl, Rat.zero_mul]; exact flo_int 0
    rw [t0, t0, f0]
    constructor
    · split
      · rename_i e; subst e; rw [t0]; split <;> rfl
      · split <;> simp
    · split
      · rename_i e; subst e; rw [t0]; split <;> rfl
      · split <;> simp
  · rw [h]
    have hmi : ∀ z ∈ mdO ls m, z.inst = m.other := by
      intro z hz
      obtain ⟨_, _, _, _, rfl⟩ := mem_madeL hz
      rfl
    have hc := hM.cut
    rw [kept_gone hk] at hc
    have hcomm : ∀ g, totL (A ++ mdO ls m ++ B) i g = totL (A ++ B) i g + totL (mdO ls m) i g := by
      intro g
      rw [totL_append, totL_append, totL_append]
      omega
    have hpo : (plO ls m).part = 0 := hp
    have hpl := planL_ok (lotsOf_ok hM.ok m.inst) hM.mp
    show totL (A ++ mdO ls m ++ B) i _ = _ ∧ totL (A ++ mdO ls m ++ B) i _ = _
    rw [hcomm, hcomm, ← hc, totL_gone, totL_gone, totL_same hmi, totL_same hmi]
    have e1 : ((mdO ls m).map (fun z => val z.q)).sum = (plO ls m).parts := madeL_q (lotsOf_ok hM.ok m.inst) hM.mp hM.old
    have e2 : ((mdO ls m).map (fun z => val z.c)).sum = (plO ls m).moved - (plO ls m).taken := madeL_c (lotsOf_ok hM.ok m.inst) hM.mp hM.old
    rw [e1, e2, hpl.whole hpo, hpl.all hk, Int.sub_zero]
    exact ⟨rfl, rfl⟩
theorem filter_split (l : List Lot) (i : List UInt8) : (l.filter (fun z => decide (z.inst ≠ i))).length + (lotsOf l i).length = l.length := by
  unfold lotsOf
  induction l with
  | nil => rfl
  | cons a l ih =>
    rw [List.filter_cons, List.filter_cons]
    by_cases h : a.inst = i
    · simp only [h, ne_eq, not_true_eq_false, decide_false, Bool.false_eq_true, if_false, beq_self_eq_true, if_true, List.length_cons] at ih ⊢
      omega
    · have h2 : (a.inst == i) = false := by simpa using h
      simp only [h, ne_eq, not_false_eq_true, decide_true, if_true, h2, Bool.false_eq_true, if_false, List.length_cons] at ih ⊢
      omega
theorem freshTo_le (m : Mp) (x : Plan) (old : List Lot) (i : Nat) : (freshTo m x old i).length ≤ i := by
  unfold freshTo
  exact Nat.le_trans (List.length_filterMap_le _ _) (by rw [List.length_range]; exact Nat.le_refl _)
/-- A valid mapping that keeps nothing can only find that an id is there. -/
theorem mapL_err {ls : List Lot} {m : Mp} (hl : LotsOk ls) (hm : m.Ok) (hk : m.keep = false) : (mapL ls m).2 = 0 ∨ (mapL ls m).2 = 5 := by
  unfold mapL
  rw [if_neg (by rw [(allC_ok ls).2 hl, (mpC_ok m).2 hm]; simp)]
  simp only
  by_cases h2 : lotsOf ls m.inst = []
  · rw [if_pos h2]; exact .inl rfl
  · rw [if_neg h2]
    by_cases h3 : ((madeL m (planL (lotsOf ls m.inst) m) (lotsOf ls m.inst)).any fun z => decide (z.id ∈ ls.map (·.id))) = true
    · rw [if_pos h3]; exact .inr rfl
    · rw [if_neg h3]
      have hfree : ∀ z ∈ madeL m (planL (lotsOf ls m.inst) m) (lotsOf ls m.inst), z.id ∉ ls.map (·.id) := by
        intro z hz hin
        apply h3
        rw [List.any_eq_true]
        exact ⟨z, hz, by simpa using hin⟩
      obtain ⟨A, B, e, hc⟩ := cutAt_of (keptL m (planL (lotsOf ls m.inst) m).m 0 ls) m.other
      have hkk := kept_lotsOk hl hm h2
      have hsub := keptL_ids m (planL (lotsOf ls m.inst) m).m 0 ls
      have hlen : (A ++ B).length + (lotsOf ls m.inst).length = ls.length := by
        rw [← e, kept_gone hk]; exact filter_split ls m.inst
      rw [e] at hkk hsub
      have heq := openAll_eq m.other (madeL m (planL (lotsOf ls m.inst) m) (lotsOf ls m.inst)) A B hc hkk (by
        intro z hz
        obtain ⟨i, y, hy, hn, rfl⟩ := mem_madeL hz
        refine ⟨newL_ok (lotsOf_ok hl _) hm h2 (Nat.le_trans (lotsOf_len _ _) hl.len) hy hn, rfl, fun hin => hfree _ hz (hsub.subset hin)⟩)
        (madeL_nodup m _ _ (planL_lens _ m).1)
      have hml : (madeL m (planL (lotsOf ls m.inst) m) (lotsOf ls m.inst)).length ≤ (lotsOf ls m.inst).length := by
        unfold madeL freshL
        rw [List.length_map]
        exact freshTo_le _ _ _ _
      have := hl.len
      rw [e, heq, if_pos (.inr (by omega))]
      exact .inl rfl

/-- What lotmap.Then gives. -/
def Mp.none : Mp := ⟨[], 0, [], [], Fr.zero, Fr.zero, Fr.zero, false⟩
def thenL (a b : Mp) : Mp × Int :=
  if mpC a ≠ 0 ∨ mpC b ≠ 0 then (Mp.none, 1) else if a.other ≠ b.inst ∨ a.keep = true ∨ b.keep = true then (Mp.none, 9)
  else ({ b with inst := a.inst, ratio := frOf (a.ratio.rat * b.ratio.rat) }, 0)
theorem thenL_ok {a b : Mp} (h : (thenL a b).2 = 0) : a.Ok ∧ b.Ok ∧ a.other = b.inst ∧ a.keep = false ∧ b.keep = false ∧ (thenL a b).1 = { b with inst := a.inst, ratio := frOf (a.ratio.rat * b.ratio.rat) } ∧ (thenL a b).1.Ok := by
  unfold thenL at h ⊢
  by_cases h1 : mpC a ≠ 0 ∨ mpC b ≠ 0
  · rw [if_pos h1] at h; exact absurd h (by decide)
  · rw [if_neg h1] at h ⊢
    by_cases h2 : a.other ≠ b.inst ∨ a.keep = true ∨ b.keep = true
    · rw [if_pos h2] at h; exact absurd h (by decide)
    · rw [if_neg h2]
      simp only [not_or] at h1 h2
      have ha := (mpC_ok a).1 (Classical.not_not.1 h1.1)
      have hb := (mpC_ok b).1 (Classical.not_not.1 h1.2)
      have hbk : b.keep = false := by simpa using h2.2.2
      refine ⟨ha, hb, Classical.not_not.1 h2.1, by simpa using h2.2.1, hbk, rfl, ?_⟩
      exact ⟨hb.cause, ha.inst, hb.other, hb.day, frOf_ok _, hb.share, hb.price, by show 0 < (frOf _).rat; rw [rat_frOf]; exact Rat.mul_pos ha.r0 hb.r0, hb.s0, hb.s1, hb.p0,
        (fun h => absurd (hbk.symm.trans h) (by decide)), hb.all⟩
theorem mapL_valid {ls : List Lot} {m : Mp} (h : (mapL ls m).2 = 0) : LotsOk ls ∧ m.Ok := by
  rcases mapL_case ls m with ⟨e, he, h'⟩ | ⟨hl, hm, _, _⟩ | ⟨A, B, hM, _⟩
  · rw [h'] at h; exact absurd h he
  · exact ⟨hl, hm⟩
  · exact ⟨hM.ok, hM.mp⟩
/-- Two mappings lead where the one of Then leads. -/
theorem succession {ls : List Lot} {a b : Mp} (h : (thenL a b).2 = 0) (hno : lotsOf ls a.other = [] ∨ a.other = a.inst) (h1 : (mapL ls a).2 = 0) (h2 : (mapL (mapL ls a).1.lots b).2 = 0)
    (hx : ((totL ls a.inst (fun z => val z.q) : Int) : Rat) * a.ratio.rat - ((flo (((totL ls a.inst (fun z => val z.q) : Int) : Rat) * a.ratio.rat) : Int) : Rat) = 0)
    (hy : ((flo (((totL ls a.inst (fun z => val z.q) : Int) : Rat) * a.ratio.rat) : Int) : Rat) * b.ratio.rat - ((flo (((flo (((totL ls a.inst (fun z => val z.q) : Int) : Rat) * a.ratio.rat) : Int) : Rat) * b.ratio.rat) : Int) : Rat) = 0) :
    (mapL ls (thenL a b).1).2 = 5 ∨ ((mapL ls (thenL a b).1).2 = 0 ∧ totL (mapL (mapL ls a).1.lots b).1.lots b.other (fun z => val z.q) = totL (mapL ls (thenL a b).1).1.lots b.other (fun z => val z.q) ∧ totL (mapL (mapL ls a).1.lots b).1.lots b.other (fun z => val z.c) = totL (mapL ls (thenL a b).1).1.lots b.other (fun z => val z.c)) := by
  obtain ⟨ha, hb, hab, hak, hbk, he, hto⟩ := thenL_ok h
  obtain ⟨hl, _⟩ := mapL_valid h1
  have hdk : (thenL a b).1.keep = false := by rw [he]; exact hbk
  by_cases h5 : (mapL ls (thenL a b).1).2 = 5
  · exact .inl h5
  have hd : (mapL ls (thenL a b).1).2 = 0 := (mapL_err hl hto hdk).resolve_right h5
  refine .inr ⟨hd, ?_⟩
  have t1 := mapL_tot hak h1 hx
  have hz : ∀ g, (if a.other = a.inst then 0 else totL ls a.other g) = 0 := by
    intro g
    split
    · rfl
    · rename_i hne
      rcases hno with e | e
      · unfold totL; rw [e]; rfl
      · exact absurd e hne
  obtain ⟨u1, u2⟩ := t1 a.other
  rw [hz, if_pos rfl, Int.zero_add] at u1 u2
  rw [hab] at u1 u2
  have e1 := int_of_flr hx
  generalize hn : flo (((totL ls a.inst (fun z => val z.q) : Int) : Rat) * a.ratio.rat) = n at *
  have t2 := mapL_tot (ls := (mapL ls a).1.lots) (m := b) hbk h2 (by rw [u1]; exact hy) b.other
  rw [u1, u2, if_pos rfl, if_pos rfl] at t2
  have hxy : ((totL ls a.inst (fun z => val z.q) : Int) : Rat) * (a.ratio.rat * b.ratio.rat) = (n : Rat) * b.ratio.rat := by rw [← Rat.mul_assoc, e1]
  have t3 := mapL_tot (ls := ls) (m := (thenL a b).1) hdk hd (by
    rw [he]
    show ((totL ls a.inst (fun z => val z.q) : Int) : Rat) * (frOf _).rat - ((flo (((totL ls a.inst (fun z => val z.q) : Int) : Rat) * (frOf _).rat) : Int) : Rat) = 0
    rw [rat_frOf, hxy]
    exact hy) b.other
  have hinst : (thenL a b).1.inst = a.inst := by rw [he]
  have hother : (thenL a b).1.other = b.other := by rw [he]
  have hratio : (thenL a b).1.ratio.rat = a.ratio.rat * b.ratio.rat := by rw [he]; exact rat_frOf _
  rw [hinst, hother, hratio, hxy, if_pos rfl, if_pos rfl] at t3
  rw [t2.1, t2.2, t3.1, t3.2]
  have key : ∀ (g : Lot → Int) (G : Int), totL (mapL ls a).1.lots b.other g = (if b.other = a.inst then 0 else totL ls b.other g) + (if b.other = a.other then G else 0) →
      (if b.other = b.inst then 0 else totL (mapL ls a).1.lots b.other g) = (if b.other = a.inst then 0 else totL ls b.other g) := by
    intro g G hg
    by_cases e : b.other = b.inst
    · rw [if_pos e]
      have := hz g
      rw [hab, ← e] at this
      exact this.symm
    · rw [if_neg e, hg, if_neg (c := b.other = a.other) (fun h => e (h.trans hab)), Int.add_zero]
  obtain ⟨v1, v2⟩ := t1 b.other
  rw [key _ _ v1, key _ _ v2]
  exact ⟨rfl, rfl⟩
end Go.Proofs.YtbnfgbcgpbdpcaaGreatDoor
/- Contract of lotmap.Check at mappings with a bad name, of whatever length. -/
namespace Go.Proofs.YtbnfgbcgpbdpcaaGreatDoor
open Go.RowKit Go.Shelf
attribute [local go_sem ↓] Go.wp_at_zero Go.wp_at_succ

/-- A mapping one of whose names is none. -/
structure Mp.Bad (m : Mp) : Prop where
  bad : (nameB m.cause && nameB m.inst && nameB m.other) = false
  d1 : -9223372036854775808 ≤ m.day
  d2 : m.day ≤ 9223372036854775807
theorem Mp.Sz.more {L K : Nat} {m : Mp} (h : m.Sz L) (hK : L ≤ K) : m.Sz K := ⟨Nat.le_trans h.cause hK, Nat.le_trans h.inst hK, Nat.le_trans h.other hK, h.ratio.more hK, h.share.more hK, h.price.more hK, h.d1, h.d2⟩
theorem Mp.Bad.c {m : Mp} (h : m.Bad) : mpC m = 23 := by
  unfold mpC
  rw [h.bad]
  rfl
set_option maxRecDepth 20000 in
set_option maxHeartbeats 2000000 in
theorem mCheck_bad (m : Mp) (hm : m.Bad) : Gives 83 #[MpV m] (.int .i64 (mpC m)) := by
  intro w hp
  rw [hm.c]
  have H := Lib.hid ((Kp.start hp).new w.heap.size rfl #[.string ⟨m.cause.toArray⟩, .int .i64 m.day, .string ⟨m.inst.toArray⟩, .string ⟨m.other.toArray⟩, .string ⟨m.ratio.n.toArray⟩, .string ⟨m.ratio.d.toArray⟩, .string ⟨m.share.n.toArray⟩, .string ⟨m.share.d.toArray⟩, .string ⟨m.price.n.toArray⟩, .string ⟨m.price.d.toArray⟩, .bool m.keep] 28)
  have HWD := Lib.hid (weekday_any m.day hm.d1 hm.d2)
  have HN1 := Lib.hid (name_any m.cause); have HN2 := Lib.hid (name_any m.inst); have HN3 := Lib.hid (name_any m.other)
  have hb := hm.bad
  generalize (if dayB m.day = true then (0 : Int) else 13) = cd at *
  generalize wkd m.day = wk at *
  generalize nameB m.cause = n1 at *; generalize nameB m.inst = n2 at *; generalize nameB m.other = n3 at *
  have eA : (mpA m).toArray = #[.string ⟨m.cause.toArray⟩, .int .i64 m.day, .string ⟨m.inst.toArray⟩, .string ⟨m.other.toArray⟩, .string ⟨m.ratio.n.toArray⟩, .string ⟨m.ratio.d.toArray⟩, .string ⟨m.share.n.toArray⟩, .string ⟨m.share.d.toArray⟩, .string ⟨m.price.n.toArray⟩, .string ⟨m.price.d.toArray⟩, .bool m.keep] := rfl
  unfold MpV
  rw [eA]
  clear eA hm hp
  unfold S at *
  have z0 : (w.alloc (.cells #[.string ⟨m.cause.toArray⟩, .int .i64 m.day, .string ⟨m.inst.toArray⟩, .string ⟨m.other.toArray⟩, .string ⟨m.ratio.n.toArray⟩, .string ⟨m.ratio.d.toArray⟩, .string ⟨m.share.n.toArray⟩, .string ⟨m.share.d.toArray⟩, .string ⟨m.price.n.toArray⟩, .string ⟨m.price.d.toArray⟩, .bool m.keep] 28)).cell? ⟨w.heap.size, 1, none⟩ = some (.int .i64 m.day) := H.out.c 0 1 rfl rfl
  have hcase : n1 = false ∨ (n1 = true ∧ n2 = false) ∨ (n1 = true ∧ n2 = true ∧ n3 = false) := by
    cases n1 <;> cases n2 <;> cases n3 <;> simp_all
  clear hb
  rcases hcase with rfl | ⟨rfl, rfl⟩ | ⟨rfl, rfl, rfl⟩
  · go_enter Tryz.func83, Tryz.ntmps83
    go_wp2_with fail
    generalize w.alloc (.cells #[.string ⟨m.cause.toArray⟩, .int .i64 m.day, .string ⟨m.inst.toArray⟩, .string ⟨m.other.toArray⟩, .string ⟨m.ratio.n.toArray⟩, .string ⟨m.ratio.d.toArray⟩, .string ⟨m.share.n.toArray⟩, .string ⟨m.share.d.toArray⟩, .string ⟨m.price.n.toArray⟩, .string ⟨m.price.d.toArray⟩, .bool m.keep] 28) = W at *
    refine (HWD.out _ H.out.pw).mono ?_
    rintro e w1 ⟨rfl, hb1⟩
    have H1 := Lib.hid (H.out.here hb1)
    clear hb1 z0
    have c0 := H1.out.c 0 0 rfl rfl; have c2 := H1.out.c 0 2 rfl rfl; have c3 := H1.out.c 0 3 rfl rfl
    go_wp2_with fail
    refine (HN1.out _ H1.out.pw).mono ?_
    rintro e w2 ⟨rfl, hb2⟩
    have H2 := Lib.hid (H1.out.here hb2)
    clear hb2 c0 c2 c3
    go_wp2_with fail
    first | go_ret | skip
    exact ⟨rfl, H2.out.bl⟩
  · go_enter Tryz.func83, Tryz.ntmps83
    go_wp2_with fail
    generalize w.alloc (.cells #[.string ⟨m.cause.toArray⟩, .int .i64 m.day, .string ⟨m.inst.toArray⟩, .string ⟨m.other.toArray⟩, .string ⟨m.ratio.n.toArray⟩, .string ⟨m.ratio.d.toArray⟩, .string ⟨m.share.n.toArray⟩, .string ⟨m.share.d.toArray⟩, .string ⟨m.price.n.toArray⟩, .string ⟨m.price.d.toArray⟩, .bool m.keep] 28) = W at *
    refine (HWD.out _ H.out.pw).mono ?_
    rintro e w1 ⟨rfl, hb1⟩
    have H1 := Lib.hid (H.out.here hb1)
    clear hb1 z0
    have c0 := H1.out.c 0 0 rfl rfl; have c2 := H1.out.c 0 2 rfl rfl; have c3 := H1.out.c 0 3 rfl rfl
    go_wp2_with fail
    refine (HN1.out _ H1.out.pw).mono ?_
    rintro e w2 ⟨rfl, hb2⟩
    have H2 := Lib.hid (H1.out.here hb2)
    clear hb2 c0 c2 c3
    have c2 := H2.out.c 0 2 rfl rfl; have c3 := H2.out.c 0 3 rfl rfl
    go_wp2_with fail
    refine (HN2.out _ H2.out.pw).mono ?_
    rintro e w3 ⟨rfl, hb3⟩
    have H3 := Lib.hid (H2.out.here hb3)
    clear hb3 c2 c3
    go_wp2_with fail
    first | go_ret | skip
    exact ⟨rfl, H3.out.bl⟩
  · go_enter Tryz.func83, Tryz.ntmps83
    go_wp2_with fail
    generalize w.alloc (.cells #[.string ⟨m.cause.toArray⟩, .int .i64 m.day, .string ⟨m.inst.toArray⟩, .string ⟨m.other.toArray⟩, .string ⟨m.ratio.n.toArray⟩, .string ⟨m.ratio.d.toArray⟩, .string ⟨m.share.n.toArray⟩, .string ⟨m.share.d.toArray⟩, .string ⟨m.price.n.toArray⟩, .string ⟨m.price.d.toArray⟩, .bool m.keep] 28) = W at *
    refine (HWD.out _ H.out.pw).mono ?_
    rintro e w1 ⟨rfl, hb1⟩
    have H1 := Lib.hid (H.out.here hb1)
    clear hb1 z0
    have c0 := H1.out.c 0 0 rfl rfl; have c2 := H1.out.c 0 2 rfl rfl; have c3 := H1.out.c 0 3 rfl rfl
    go_wp2_with fail
    refine (HN1.out _ H1.out.pw).mono ?_
    rintro e w2 ⟨rfl, hb2⟩
    have H2 := Lib.hid (H1.out.here hb2)
    clear hb2 c0 c2 c3
    have c2 := H2.out.c 0 2 rfl rfl; have c3 := H2.out.c 0 3 rfl rfl
    go_wp2_with fail
    refine (HN2.out _ H2.out.pw).mono ?_
    rintro e w3 ⟨rfl, hb3⟩
    have H3 := Lib.hid (H2.out.here hb3)
    clear hb3 c2 c3
    have c3 := H3.out.c 0 3 rfl rfl
    go_wp2_with fail
    refine (HN3.out _ H3.out.pw).mono ?_
    rintro e w4 ⟨rfl, hb4⟩
    have H4 := Lib.hid (H3.out.here hb4)
    clear hb4 c3
    go_wp2_with fail
    first | go_ret | skip
    exact ⟨rfl, H4.out.bl⟩
theorem mCheck_all (m : Mp) (h : m.Sz 5000 ∨ m.Bad) : Gives 83 #[MpV m] (.int .i64 (mpC m)) := h.elim (mCheck_any m) (mCheck_bad m)
end Go.Proofs.YtbnfgbcgpbdpcaaGreatDoor
/- Contracts of the statements' long, great. -/
namespace Go.Proofs.YtbnfgbcgpbdpcaaGreatDoor
open Go.RowKit Go.Shelf

def lngF (f : Fr) : Bool := decide (10 < f.n.length ∨ 10 < f.d.length)
theorem lngF_no {f : Fr} (h : lngF f = false) : f.Sz 10 := by
  unfold lngF at h
  simp at h
  exact ⟨by omega, by omega⟩
set_option maxRecDepth 20000 in
theorem lwLong1_any (f : Fr) (w : World) (h1 : f.n.length ≤ maxLen) (h2 : f.d.length ≤ maxLen) : Calls Tryz.prog 58 #[FrV f] w fun e w' => e = .returned (.bool (lngF f)) ∧ Below w.heap.size w w' := by
  obtain ⟨x0, x1⟩ := (FrB.new w f).cells
  have hbA : Below w.heap.size w (w.alloc (.cells #[.string ⟨f.n.toArray⟩, .string ⟨f.d.toArray⟩] 26)) := (Below.refl _ _).alloc (Nat.le_refl _) _
  have HBA := Lib.hid hbA; clear hbA h1 h2
  unfold FrV S
  by_cases ha : 10 < f.n.length
  · have HD := Lib.hid (show lngF f = true by simp [lngF, ha])
    rw [HD.out]
    go_enter Tryz.func58, Tryz.ntmps58
    go_wp2_with fail
    go_ret
    exact ⟨rfl, HBA.out⟩
  · have hdec : decide (10 < f.n.length) = false := by simpa using ha
    have HD := Lib.hid (show lngF f = decide (10 < f.d.length) by simp [lngF, ha])
    rw [HD.out]
    go_enter Tryz.func58, Tryz.ntmps58
    go_wp2_with fail
    go_ret
    refine ⟨?_, HBA.out⟩
    refine ret_bool ?_
    rw [Bool.eq_iff_iff]
    simp
    omega
/-- What long gives. -/
def lenM (m : Mp) : Int := wrap64 (wrap64 ((m.cause.length : Int) + (m.inst.length : Int)) + (m.other.length : Int))
def longM (m : Mp) : Bool := decide (72 < lenM m) || (lngF m.ratio || lngF m.share || lngF m.price)
theorem wrap_in (n : Int) (h : -9223372036854775808 ≤ n ∧ n ≤ 9223372036854775807) : wrap64 n = n := by unfold wrap64; omega
theorem nameB_long {s : List UInt8} (h : 16 < s.length) : nameB s = false := by
  unfold nameB
  rw [decide_eq_false (show ¬ s.length ≤ 16 by omega)]
  simp
structure Mp.Max (m : Mp) : Prop where
  cause : m.cause.length ≤ maxLen
  inst : m.inst.length ≤ maxLen
  other : m.other.length ≤ maxLen
  rn : m.ratio.n.length ≤ maxLen
  rd : m.ratio.d.length ≤ maxLen
  sn : m.share.n.length ≤ maxLen
  sd : m.share.d.length ≤ maxLen
  pn : m.price.n.length ≤ maxLen
  pd : m.price.d.length ≤ maxLen
theorem longM_no {m : Mp} (h : longM m = false) (h1 : -9223372036854775808 ≤ m.day) (h2 : m.day ≤ 9223372036854775807) : m.ratio.Sz 10 ∧ m.share.Sz 10 ∧ m.price.Sz 10 ∧ (m.Sz 72 ∨ m.Bad) := by
  unfold longM at h
  simp only [Bool.or_eq_false_iff, decide_eq_false_iff_not] at h
  obtain ⟨a, ⟨b, c⟩, d⟩ := h
  have hb := lngF_no b; have hc := lngF_no c; have hd := lngF_no d
  refine ⟨hb, hc, hd, ?_⟩
  by_cases hs : m.cause.length + m.inst.length + m.other.length ≤ 9223372036854775807
  · unfold lenM at a
    rw [wrap_in ((m.cause.length : Int) + (m.inst.length : Int)) (by omega), wrap_in _ (by omega)] at a
    exact .inl ⟨by omega, by omega, by omega, hb.more (by omega), hc.more (by omega), hd.more (by omega), h1, h2⟩
  · refine .inr ⟨?_, h1, h2⟩
    by_cases g1 : 16 < m.cause.length
    · rw [nameB_long g1]; rfl
    · by_cases g2 : 16 < m.inst.length
      · rw [nameB_long g2]; simp
      · rw [nameB_long (s := m.other) (by omega)]; simp
set_option maxRecDepth 20000 in
set_option maxHeartbeats 1000000 in
theorem lwLong_any (m : Mp) (w : World) (hm : m.Max) : Calls Tryz.prog 30 #[MpV m] w fun e w' => e = .returned (.bool (longM m)) ∧ Below w.heap.size w w' := by
  have H := Lib.hid ((Below.refl w.heap.size w).alloc (Nat.le_refl _) (.cells #[.string ⟨m.cause.toArray⟩, .int .i64 m.day, .string ⟨m.inst.toArray⟩, .string ⟨m.other.toArray⟩, .string ⟨m.ratio.n.toArray⟩, .string ⟨m.ratio.d.toArray⟩, .string ⟨m.share.n.toArray⟩, .string ⟨m.share.d.toArray⟩, .string ⟨m.price.n.toArray⟩, .string ⟨m.price.d.toArray⟩, .bool m.keep] 28))
  have HWS := Lib.hid (show (w.alloc (.cells #[.string ⟨m.cause.toArray⟩, .int .i64 m.day, .string ⟨m.inst.toArray⟩, .string ⟨m.other.toArray⟩, .string ⟨m.ratio.n.toArray⟩, .string ⟨m.ratio.d.toArray⟩, .string ⟨m.share.n.toArray⟩, .string ⟨m.share.d.toArray⟩, .string ⟨m.price.n.toArray⟩, .string ⟨m.price.d.toArray⟩, .bool m.keep] 28)).heap.size = w.heap.size + 1 by simp)
  have HLM := Lib.hid (show longM m = (decide (72 < lenM m) || (lngF m.ratio || lngF m.share || lngF m.price)) from rfl)
  have HC := Lib.hid (fun (W : World) (A : Option Addr) (c : Nat) (h : Frs W W.heap.size A 3 [m.ratio, m.share, m.price]) => containsF_any 58 lngF A 3 c [m.ratio, m.share, m.price] W (enters_of Tryz.func58 (by kernel_rfl) rfl) (fun W x hx _ => by
    simp only [List.mem_cons, List.mem_nil_iff, or_false] at hx
    rcases hx with rfl | rfl | rfl
    · exact lwLong1_any _ W hm.rn hm.rd
    · exact lwLong1_any _ W hm.sn hm.sd
    · exact lwLong1_any _ W hm.pn hm.pd) h (by omega))
  rw [show [m.ratio, m.share, m.price].any lngF = (lngF m.ratio || lngF m.share || lngF m.price) by simp [Bool.or_assoc]] at HC
  have HSL := Lib.hid (fun W => Sl.lit (enc := F2) (k := 2) W #[.string ⟨m.ratio.n.toArray⟩, .string ⟨m.ratio.d.toArray⟩, .string ⟨m.share.n.toArray⟩, .string ⟨m.share.d.toArray⟩, .string ⟨m.price.n.toArray⟩, .string ⟨m.price.d.toArray⟩] 26 [m.ratio, m.share, m.price] rfl F2_len)
  generalize longM m = lg at *
  generalize (lngF m.ratio || lngF m.share || lngF m.price) = lf at *
  clear hm
  unfold MpV mpA S
  by_cases hb : 72 < lenM m
  · have hb2 : (72 : Int) < wrap64 (wrap64 ((m.cause.length : Int) + (m.inst.length : Int)) + (m.other.length : Int)) := hb
    rw [decide_eq_true hb, Bool.true_or] at HLM
    clear hb
    go_enter Tryz.func30, Tryz.ntmps30
    go_wp2_with fail
    go_ret
    exact ⟨ret_bool HLM.out.symm, H.out⟩
  · have hb2 : ¬ (72 : Int) < wrap64 (wrap64 ((m.cause.length : Int) + (m.inst.length : Int)) + (m.other.length : Int)) := hb
    rw [decide_eq_false hb, Bool.false_or] at HLM
    clear hb
    go_enter Tryz.func30, Tryz.ntmps30
    go_wp2_with fail
    generalize w.alloc (.cells #[.string ⟨m.cause.toArray⟩, .int .i64 m.day, .string ⟨m.inst.toArray⟩, .string ⟨m.other.toArray⟩, .string ⟨m.ratio.n.toArray⟩, .string ⟨m.ratio.d.toArray⟩, .string ⟨m.share.n.toArray⟩, .string ⟨m.share.d.toArray⟩, .string ⟨m.price.n.toArray⟩, .string ⟨m.price.d.toArray⟩, .bool m.keep] 28) = W at *
    have hsl := HSL.out W
    have hsl2 : Frs (W.alloc (.cells #[.string ⟨m.ratio.n.toArray⟩, .string ⟨m.ratio.d.toArray⟩, .string ⟨m.share.n.toArray⟩, .string ⟨m.share.d.toArray⟩, .string ⟨m.price.n.toArray⟩, .string ⟨m.price.d.toArray⟩] 26)) (W.alloc (.cells #[.string ⟨m.ratio.n.toArray⟩, .string ⟨m.ratio.d.toArray⟩, .string ⟨m.share.n.toArray⟩, .string ⟨m.share.d.toArray⟩, .string ⟨m.price.n.toArray⟩, .string ⟨m.price.d.toArray⟩] 26)).heap.size (some ⟨w.heap.size + 1, 0, none⟩) 3 [m.ratio, m.share, m.price] := by rw [← HWS.out]; exact hsl.more (by simp)
    refine (HC.out _ _ _ hsl2).mono ?_
    rintro e w1 ⟨rfl, hb1⟩
    clear hsl hsl2
    go_wp2_with fail
    go_ret
    exact ⟨ret_bool HLM.out.symm, H.out.trans ((((Below.refl _ W).alloc (Nat.le_refl _) _).trans (hb1.mono (by simp))).mono H.out.size)⟩
/-- What trancheref19.Great gives. -/
def grt1 (x : Lot) : Bool := decide (13 < x.q.length) || decide (13 < x.c.length) || decide (13 < x.u.length) || decide (40 < x.id.length) || decide (40 < x.inst.length)
def grtL (xs : List Lot) : Bool := (decide (12 < xs.length) && decide (xs.length < 999)) || decide (1002 < xs.length) || xs.any grt1
structure Lot.Max (x : Lot) : Prop where
  id : x.id.length ≤ maxLen
  inst : x.inst.length ≤ maxLen
  q : x.q.length ≤ maxLen
  c : x.c.length ≤ maxLen
  u : x.u.length ≤ maxLen
theorem rLong_any (a : List UInt8) (w : World) : Calls Tryz.prog 95 #[S a] w fun e w' => e = .returned (.bool (decide (13 < a.length))) ∧ w = w' := by
  unfold S
  go_enter Tryz.func95, Tryz.ntmps95
  go_wp2_with fail
  go_ret
  refine ⟨ret_bool ?_, rfl⟩
  rw [Bool.eq_iff_iff]
  simp
  omega
set_option maxRecDepth 20000 in
set_option maxHeartbeats 2000000 in
theorem rGreatOne_any (x : Lot) (w : World) : Calls Tryz.prog 56 #[LotV x] w fun e w' => e = .returned (.bool (grt1 x)) ∧ Below w.heap.size w w' := by
  have HB := Lib.hid ((Below.refl w.heap.size w).alloc (Nat.le_refl _) (.cells #[.string ⟨x.id.toArray⟩, .string ⟨x.inst.toArray⟩, .int .i64 x.acq, .int .i64 x.opn, .string ⟨x.q.toArray⟩, .string ⟨x.c.toArray⟩, .string ⟨x.u.toArray⟩] 39))
  have HQ := Lib.hid (fun W => rLong_any x.q W)
  have HC := Lib.hid (fun W => rLong_any x.c W)
  have HU := Lib.hid (fun W => rLong_any x.u W)
  have HG := Lib.hid (show grt1 x = (decide (13 < x.q.length) || decide (13 < x.c.length) || decide (13 < x.u.length) || decide (40 < x.id.length) || decide (40 < x.inst.length)) from rfl)
  generalize grt1 x = gr at *
  unfold LotV S
  unfold S at *
  by_cases h1 : 13 < x.q.length
  · rw [decide_eq_true h1] at HQ HG
    go_enter Tryz.func56, Tryz.ntmps56
    go_wp2_with fail
    refine (HQ.out _).mono ?_
    rintro e w1 ⟨rfl, rfl⟩
    go_wp2_with fail
    go_ret
    exact ⟨ret_bool (by rw [HG.out]; simp), HB.out⟩
  · rw [decide_eq_false h1] at HQ HG
    by_cases h2 : 13 < x.c.length
    · rw [decide_eq_true h2] at HC HG
      go_enter Tryz.func56, Tryz.ntmps56
      go_wp2_with fail
      refine (HQ.out _).mono ?_
      rintro e w1 ⟨rfl, rfl⟩
      go_wp2_with fail
      refine (HC.out _).mono ?_
      rintro e w1 ⟨rfl, rfl⟩
      go_wp2_with fail
      go_ret
      exact ⟨ret_bool (by rw [HG.out]; simp), HB.out⟩
    · rw [decide_eq_false h2] at HC HG
      by_cases h3 : 13 < x.u.length
      · rw [decide_eq_true h3] at HU HG
        go_enter Tryz.func56, Tryz.ntmps56
        go_wp2_with fail
        refine (HQ.out _).mono ?_
        rintro e w1 ⟨rfl, rfl⟩
        go_wp2_with fail
        refine (HC.out _).mono ?_
        rintro e w1 ⟨rfl, rfl⟩
        go_wp2_with fail
        refine (HU.out _).mono ?_
        rintro e w1 ⟨rfl, rfl⟩
        go_wp2_with fail
        go_ret
        exact ⟨ret_bool (by rw [HG.out]; simp), HB.out⟩
      · rw [decide_eq_false h3] at HU HG
        clear h1 h2 h3
        by_cases h4 : 40 < x.id.length
        · rw [decide_eq_true h4] at HG
          have h4' : (40 : Int) < (x.id.length : Int) := by omega
          clear h4
          go_enter Tryz.func56, Tryz.ntmps56
          go_wp2_with fail
          refine (HQ.out _).mono ?_
          rintro e w1 ⟨rfl, rfl⟩
          go_wp2_with fail
          refine (HC.out _).mono ?_
          rintro e w1 ⟨rfl, rfl⟩
          go_wp2_with fail
          refine (HU.out _).mono ?_
          rintro e w1 ⟨rfl, rfl⟩
          go_wp2_with fail
          go_ret
          exact ⟨ret_bool (by rw [HG.out]; simp), HB.out⟩
        · rw [decide_eq_false h4] at HG
          have h4' : ¬ (40 : Int) < (x.id.length : Int) := by omega
          clear h4
          by_cases h5 : 40 < x.inst.length
          · rw [decide_eq_true h5] at HG
            have h5' : (40 : Int) < (x.inst.length : Int) := by omega
            clear h5
            go_enter Tryz.func56, Tryz.ntmps56
            go_wp2_with fail
            refine (HQ.out _).mono ?_
            rintro e w1 ⟨rfl, rfl⟩
            go_wp2_with fail
            refine (HC.out _).mono ?_
            rintro e w1 ⟨rfl, rfl⟩
            go_wp2_with fail
            refine (HU.out _).mono ?_
            rintro e w1 ⟨rfl, rfl⟩
            go_wp2_with fail
            go_ret
            exact ⟨ret_bool (by rw [HG.out]; simp), HB.out⟩
          · rw [decide_eq_false h5] at HG
            have h5' : ¬ (40 : Int) < (x.inst.length : Int) := by omega
            clear h5
            go_enter Tryz.func56, Tryz.ntmps56
            go_wp2_with fail
            refine (HQ.out _).mono ?_
            rintro e w1 ⟨rfl, rfl⟩
            go_wp2_with fail
            refine (HC.out _).mono ?_
            rintro e w1 ⟨rfl, rfl⟩
            go_wp2_with fail
            refine (HU.out _).mono ?_
            rintro e w1 ⟨rfl, rfl⟩
            go_wp2_with fail
            go_ret
            exact ⟨ret_bool (by rw [HG.out]; simp; omega), HB.out⟩
theorem any_take {p : Lot → Bool} {xs : List Lot} {k : Nat} {x : Lot} (h : xs[k]? = some x) : (xs.take (k + 1)).any p = ((xs.take k).any p || p x) := by
  obtain ⟨hk, rfl⟩ := List.getElem?_eq_some_iff.1 h
  rw [List.take_succ_eq_append_getElem hk, List.any_append]
  simp
set_option maxRecDepth 20000 in
set_option maxHeartbeats 2000000 in
theorem rGreat_any (A : Option Addr) (n c : Nat) (xs : List Lot) (w : World) (hs : Lots w w.heap.size A n xs) (hn : n ≤ 9223372036854775807) : Calls Tryz.prog 29 #[.slice A n c] w fun e w' => e = .returned (.bool (grtL xs)) ∧ Below w.heap.size w w' := by
  have HS := Lib.hid hs
  have hnx := hs.1
  have HG := Lib.hid (show grtL xs = ((decide (12 < n) && decide (n < 999)) || decide (1002 < n) || xs.any grt1) by rw [hnx]; rfl)
  have HNX := Lib.hid hnx
  generalize grtL xs = gr at *
  clear hs hnx
  by_cases h1 : 12 < n
  · by_cases h2 : n < 999
    · rw [decide_eq_true h1, decide_eq_true h2] at HG
      have a1 : (12 : Int) < (n : Int) := by omega
      have a2 : (n : Int) < 999 := by omega
      clear h1 h2
      go_enter Tryz.func29, Tryz.ntmps29
      go_wp2_with fail
      go_ret
      exact ⟨ret_bool (by rw [HG.out]; simp), Below.refl _ _⟩
    · rw [decide_eq_true h1, decide_eq_false h2] at HG
      by_cases h3 : 1002 < n
      · rw [decide_eq_true h3] at HG
        have a1 : (12 : Int) < (n : Int) := by omega
        have a2 : ¬ (n : Int) < 999 := by omega
        have a3 : (1002 : Int) < (n : Int) := by omega
        clear h1 h2 h3
        go_enter Tryz.func29, Tryz.ntmps29
        go_wp2_with fail
        go_ret
        exact ⟨ret_bool (by rw [HG.out]; simp), Below.refl _ _⟩
      · rw [decide_eq_false h3] at HG
        have a1 : (12 : Int) < (n : Int) := by omega
        have a2 : ¬ (n : Int) < 999 := by omega
        have a3 : ¬ (1002 : Int) < (n : Int) := by omega
        clear h1 h2 h3
        go_enter Tryz.func29, Tryz.ntmps29
        go_wp2_with fail
        go_loopw [3] (fun i wr => ∃ k : Nat, k ≤ n ∧ i = .int .i64 k ∧ Hid ((xs.take k).any grt1 = false) ∧ Hid (Below w.heap.size w wr)) (fun i _ => n - (intOf i).toNat)
        case atStart => exact ⟨0, Nat.zero_le _, rfl, (show _ = _ by simp), Below.refl _ _⟩
        case round =>
          obtain ⟨k, hk, rfl, HAN, HBR⟩ := hrel
          by_cases hlt : k < n
          · obtain ⟨b, off, x, rfl, hb, hx, d0, d1, d2, d3, d4, d5, d6⟩ := (HS.out.here HBR.out).lot7 hlt
            have HAT := Lib.hid (any_take (p := grt1) hx)
            have HMX := Lib.hid (List.mem_of_getElem? hx)
            clear hx
            have HGO := Lib.hid (rGreatOne_any x wr)
            have HGX := Lib.hid (show grt1 x = true → xs.any grt1 = true from fun h => List.any_eq_true.2 ⟨x, HMX.out, h⟩)
            generalize grt1 x = gx at *
            unfold LotV S at HGO
            cases gx with
            | true =>
              go_wp2_with fail
              refine HGO.out.mono ?_
              rintro e w1 ⟨rfl, hb1⟩
              go_wp2_with fail
              go_ret
              exact ⟨ret_bool (by have hg := HGX.out; simp only [forall_const] at hg; rw [HG.out, hg]; simp), HBR.out.trans (hb1.mono HBR.out.size)⟩
            | false =>
              go_wp2_with fail
              refine HGO.out.mono ?_
              rintro e w1 ⟨rfl, hb1⟩
              go_wp2_with fail
              go_roundw
              case rel => exact ⟨k + 1, by omega, by go_num, (show _ = _ by rw [HAT.out, HAN.out]; rfl), HBR.out.trans (hb1.mono HBR.out.size)⟩
              case measure => simp [intOf]; omega
          · have HTK := Lib.hid (show xs.any grt1 = false by have := HAN.out; rwa [List.take_of_length_le (by have := HNX.out; omega)] at this)
            go_wp2_with fail
            go_ret
            exact ⟨ret_bool (by rw [HG.out, HTK.out]; simp), HBR.out⟩
  · rw [decide_eq_false h1] at HG
    have h3 : ¬ 1002 < n := by omega
    rw [decide_eq_false h3] at HG
    have a1 : ¬ (12 : Int) < (n : Int) := by omega
    have a3 : ¬ (1002 : Int) < (n : Int) := by omega
    clear h1 h3
    go_enter Tryz.func29, Tryz.ntmps29
    go_wp2_with fail
    go_loopw [3] (fun i wr => ∃ k : Nat, k ≤ n ∧ i = .int .i64 k ∧ Hid ((xs.take k).any grt1 = false) ∧ Hid (Below w.heap.size w wr)) (fun i _ => n - (intOf i).toNat)
    case atStart => exact ⟨0, Nat.zero_le _, rfl, (show _ = _ by simp), Below.refl _ _⟩
    case round =>
      obtain ⟨k, hk, rfl, HAN, HBR⟩ := hrel
      by_cases hlt : k < n
      · obtain ⟨b, off, x, rfl, hb, hx, d0, d1, d2, d3, d4, d5, d6⟩ := (HS.out.here HBR.out).lot7 hlt
        have HAT := Lib.hid (any_take (p := grt1) hx)
        have HMX := Lib.hid (List.mem_of_getElem? hx)
        clear hx
        have HGO := Lib.hid (rGreatOne_any x wr)
        have HGX := Lib.hid (show grt1 x = true → xs.any grt1 = true from fun h => List.any_eq_true.2 ⟨x, HMX.out, h⟩)
        generalize grt1 x = gx at *
        unfold LotV S at HGO
        cases gx with
        | true =>
          go_wp2_with fail
          refine HGO.out.mono ?_
          rintro e w1 ⟨rfl, hb1⟩
          go_wp2_with fail
          go_ret
          exact ⟨ret_bool (by have hg := HGX.out; simp only [forall_const] at hg; rw [HG.out, hg]; simp), HBR.out.trans (hb1.mono HBR.out.size)⟩
        | false =>
          go_wp2_with fail
          refine HGO.out.mono ?_
          rintro e w1 ⟨rfl, hb1⟩
          go_wp2_with fail
          go_roundw
          case rel => exact ⟨k + 1, by omega, by go_num, (show _ = _ by rw [HAT.out, HAN.out]; rfl), HBR.out.trans (hb1.mono HBR.out.size)⟩
          case measure => simp [intOf]; omega
      · have HTK := Lib.hid (show xs.any grt1 = false by have := HAN.out; rwa [List.take_of_length_le (by have := HNX.out; omega)] at this)
        go_wp2_with fail
        go_ret
        exact ⟨ret_bool (by rw [HG.out, HTK.out]; simp), HBR.out⟩
end Go.Proofs.YtbnfgbcgpbdpcaaGreatDoor
