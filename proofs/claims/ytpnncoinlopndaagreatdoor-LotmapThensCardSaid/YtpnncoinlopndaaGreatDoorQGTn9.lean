/- Merged texts: Dw, Sx, Sc, Pr. -/
import Derived.Calls
import Derived.Below
import Derived.Sort.Grow
import Derived.Deep.Draws
import Derived.Test.YtpnncoinlopndaaGreatDoorQGTn1
import Derived.Test.YtpnncoinlopndaaGreatDoorQGTn8
import Derived.Shelf.SlSortCmp.NoneTotal
import Derived.Sort.OwnSorted
import Derived.Test.YtpnncoinlopndaaGreatDoorShelf
import Derived.Deep.RegionHeld3
import Derived.Test.YtpnncoinlopndaaGreatDoorQGTn7
import Derived.Test.YtpnncoinlopndaaGreatDoorQGTn3
import Derived.Test.YtpnncoinlopndaaGreatDoorNNqGTn
namespace Go.Proofs.YtpnncoinlopndaaGreatDoor
open Go
def Rge {α : Type} (d : Nat) : Result α → Prop
  | .ok _ w => d ≤ w.drawn
  | .halt _ w => d ≤ w.drawn
theorem ask_ge {α : Type} (q : Ask α) (w : World) : w.drawn ≤ (w.ask q).2.drawn := by
  induction q generalizing w with
  | done a => simp [World.ask]
  | ask what range k ih =>
    simp only [World.ask]
    split
    · exact ih _ _
    · exact Nat.le_trans (Nat.le_succ _) (ih _ { w with drawn := w.drawn + 1 })
theorem sys_ge (w : World) (c : Sys) : w.drawn ≤ (w.sys c).2.drawn := by
  have h := ask_ge (Kernel.perform c w.os) w
  unfold World.sys
  split
  · exact Nat.le_refl _
  · rename_i h2; rw [h2] at h; exact h
theorem freeze_drawn (w : World) (a : Addr) (n : Nat) : (w.freeze a n).drawn = w.drawn := by
  unfold World.freeze; split <;> rfl
theorem farStore_drawn {p : Program} {w w' : World} {a : Addr} {v : Value} {b : Bool} {l : List Addr} (h : w.farStore p a v b = .ok (w', l)) : w'.drawn = w.drawn := by
  unfold World.farStore at h
  split at h
  · split at h
    · rename_i r hr
      simp only [Except.ok.injEq] at h
      subst h
      unfold World.viewStore at hr
      simp only [bind, Except.bind, pure, Except.pure] at hr
      repeat' split at hr
      all_goals first | (cases hr; done) | (simp only [Except.ok.injEq, Prod.mk.injEq] at hr; rw [← hr.1])
    · cases h
  · cases h
theorem run_ge {α : Type} (p : Program) (s : Sem α) (w : World) : Rge w.drawn (s.run p w) := by
  induction s generalizing w with
  | pure a => simp [Sem.run, Rge]
  | load m a k ih =>
    simp only [Sem.run]
    split
    · exact ih _ _
    · split
      · exact ih _ _
      · simp [Rge]
  | store m a v k ih =>
    cases v
    all_goals
      simp only [Sem.run]
      try (simp only [Rge]; exact Nat.le_refl _)
      try (
        split
        · split
          · simp [Rge]
          · exact ih _
        · split
          · rename_i w' _ hf; have := ih w'; rw [farStore_drawn hf] at this; exact this
          · simp [Rge])
  | new o k ih => simp only [Sem.run]; exact ih _ _
  | shape r k ih => simp only [Sem.run]; exact ih _ _
  | freeze a n k ih => simp only [Sem.run]; have := ih (w.freeze a n); rw [freeze_drawn] at this; exact this
  | frozen a k ih => simp only [Sem.run]; exact ih _ _
  | getObj r k ih =>
    simp only [Sem.run]
    split
    · simp [Rge]
    · exact ih _ _
    · simp [Rge]
  | setObj r o k ih =>
    simp only [Sem.run]
    split
    · simp [Rge]
    · exact ih _
    · simp [Rge]
  | choose q k ih =>
    simp only [Sem.run]
    split
    · exact ih _ _
    · have := ih (q.cut (w.tape w.drawn q)) { w with drawn := w.drawn + 1 }
      revert this
      generalize Sem.run p _ _ = r
      cases r <;> simp [Rge] <;> omega
  | sys c k ih =>
    simp only [Sem.run]
    have h1 := sys_ge w c
    have := ih (w.sys c).1 (w.sys c).2
    revert this
    generalize Sem.run p _ _ = r
    cases r <;> simp [Rge] <;> omega
  | program k ih => simp only [Sem.run]; exact ih _ _
  | mark m k ih => simp only [Sem.run]; exact ih _
  | halt h => simp [Sem.run, Rge]
theorem runT_ge {α : Type} (p : Program) (s : Sem α) (w : World) (es : Array Event) : Rge w.drawn (s.runT p w es).1 := by
  induction s generalizing w es with
  | pure a => simp [Sem.runT, Rge]
  | load m a k ih =>
    simp only [Sem.runT]
    split
    · exact ih _ _ _
    · split
      · exact ih _ _ _
      · simp [Rge]
  | store m a v k ih =>
    cases v
    all_goals
      simp only [Sem.runT]
      try (simp only [Rge]; exact Nat.le_refl _)
      try (
        split
        · split
          · simp [Rge]
          · exact ih _ _
        · split
          · rename_i w' l hf; have := ih w' (es ++ l.toArray.map (⟨.cell ·, true, m == .atomic⟩)); rw [farStore_drawn hf] at this; exact this
          · simp [Rge])
  | new o k ih => simp only [Sem.runT]; exact ih _ _ _
  | shape r k ih => simp only [Sem.runT]; exact ih _ _ _
  | freeze a n k ih => simp only [Sem.runT]; have := ih (w.freeze a n) es; rw [freeze_drawn] at this; exact this
  | frozen a k ih => simp only [Sem.runT]; exact ih _ _ _
  | getObj r k ih =>
    simp only [Sem.runT]
    split
    · simp [Rge]
    · exact ih _ _ _
    · simp [Rge]
  | setObj r o k ih =>
    simp only [Sem.runT]
    split
    · simp [Rge]
    · exact ih _ _
    · simp [Rge]
  | choose q k ih =>
    simp only [Sem.runT]
    split
    · exact ih _ _ _
    · have := ih (q.cut (w.tape w.drawn q)) { w with drawn := w.drawn + 1 } es
      revert this
      generalize Sem.runT p _ _ _ = r
      obtain ⟨r, _⟩ := r
      cases r <;> simp [Rge] <;> omega
  | sys c k ih =>
    simp only [Sem.runT]
    have h1 := sys_ge w c
    have := ih (w.sys c).1 (w.sys c).2 (es.push ⟨.output, true, false⟩)
    revert this
    generalize Sem.runT p _ _ _ = r
    obtain ⟨r, _⟩ := r
    cases r <;> simp [Rge] <;> omega
  | program k ih => simp only [Sem.runT]; exact ih _ _ _
  | mark m k ih => simp only [Sem.runT]; exact ih _ _
  | halt h => simp [Sem.runT, Rge]
theorem run_ok {α : Type} {p : Program} {s : Sem α} {w w' : World} {a : α} {d : Nat} (h : d ≤ w.drawn) (e : s.run p w = .ok a w') : d ≤ w'.drawn := by
  have := run_ge p s w; rw [e] at this; exact Nat.le_trans h this
theorem run_halt {α : Type} {p : Program} {s : Sem α} {w w' : World} {a : Halt} {d : Nat} (h : d ≤ w.drawn) (e : s.run p w = .halt a w') : d ≤ w'.drawn := by
  have := run_ge p s w; rw [e] at this; exact Nat.le_trans h this
theorem runT_ok {α : Type} {p : Program} {s : Sem α} {w w' : World} {a : α} {d : Nat} {es es' : Array Event} (h : d ≤ w.drawn) (e : s.runT p w es = (.ok a w', es')) : d ≤ w'.drawn := by
  have := runT_ge p s w es; rw [e] at this; exact Nat.le_trans h this
theorem runT_halt {α : Type} {p : Program} {s : Sem α} {w w' : World} {a : Halt} {d : Nat} {es es' : Array Event} (h : d ≤ w.drawn) (e : s.runT p w es = (.halt a w', es')) : d ≤ w'.drawn := by
  have := runT_ge p s w es; rw [e] at this; exact Nat.le_trans h this
def GOk (d : Nat) : GStep → Prop
  | .go _ w _ => d ≤ w.drawn
  | .comm _ _ _ _ w _ => d ≤ w.drawn
  | .spawn _ _ w _ => d ≤ w.drawn
  | .count _ w _ => d ≤ w.drawn
  | .timer _ _ w _ => d ≤ w.drawn
  | .alone _ _ w _ => d ≤ w.drawn
  | .newcoro _ _ _ w _ => d ≤ w.drawn
  | .coroswitch _ _ _ w _ => d ≤ w.drawn
  | .collect _ w _ => d ≤ w.drawn
  | .watch _ w _ => d ≤ w.drawn
  | .ended .. => True
theorem GOk.ite {d : Nat} {c : Prop} [Decidable c] {a b : GStep} (ha : GOk d a) (hb : GOk d b) : GOk d (if c then a else b) := by
  split
  · exact ha
  · exact hb
theorem GOk.after {d : Nat} {es : Array Event} {s : GStep} (h : GOk d s) : GOk d (GStep.after es s) := by
  cases s <;> exact h
def SOk (d : Nat) : Stepped → Prop
  | .next m => d ≤ m.world.drawn
  | .ended .. => True
section
variable {p : Program} {fr : Frame} {callers : List Frame} {dying : Option Dying} {w : World} {d : Nat}
theorem dieOf_ok {a : List _root_.ByteArray} {m : String} {b : Bool} (h : d ≤ w.drawn) : GOk d (dieOf fr a m b w) := h
theorem endThrow_ok {m : String} (h : d ≤ w.drawn) : GOk d (endThrow fr m w) := h
theorem endPrinting_ok {v : Value} (h : d ≤ w.drawn) : GOk d (endPrinting p fr v w) := by
  unfold endPrinting
  dsimp only
  split
  · exact h
  · exact True.intro
theorem endFatal_ok {m : String} (h : d ≤ w.drawn) : GOk d (endFatal p fr callers dying m w) := by
  unfold endFatal
  dsimp only
  split
  · exact dieOf_ok (run_ok h (by assumption))
  · exact True.intro
  · exact True.intro
theorem endWith_ok {n : Nat} {t : _root_.ByteArray} {o : Outcome} : GOk d (endWith w n t o) := by
  unfold endWith
  dsimp only
  split
  · split <;> exact True.intro
  · exact True.intro
  · exact True.intro
theorem writeOn_ok {y : Dying} {f : Fatal} (h : d ≤ w.drawn) : GOk d (writeOn p fr y f w) := by
  unfold writeOn
  dsimp only
  split
  · exact True.intro
  · split
    · exact runT_ok h (by assumption)
    · exact runT_halt h (by assumption)
    · exact True.intro
    · exact True.intro
theorem die_ok {y : Dying} (h : d ≤ w.drawn) : GOk d (die p fr y w) := by
  unfold die
  dsimp only
  split
  · exact writeOn_ok h
  · split
    · split
      · exact h
      · exact endWith_ok
    · split
      · exact h
      · split
        · exact run_ok h (by assumption)
        · exact True.intro
      · refine GOk.after ?_
        split
        · exact runT_ok h (Prod.ext (by assumption) rfl)
        · exact runT_ok h (Prod.ext (by assumption) rfl)
        · exact True.intro
        · exact endPrinting_ok (runT_halt h (Prod.ext (by assumption) rfl))
        · exact True.intro
      · exact True.intro
theorem doReturn_ok {main : Bool} {v : Value} (h : d ≤ w.drawn) : GOk d (doReturn p main fr callers dying v w) := by
  unfold doReturn
  dsimp only
  repeat' split
  all_goals first | exact h | exact True.intro
theorem callDeferred_ok {x : Deferred} (h : d ≤ w.drawn) : GOk d (callDeferred p fr callers dying x w) := by
  unfold callDeferred
  dsimp only
  refine GOk.ite True.intro ?_
  · refine GOk.after ?_
    have hr := runT_ge p (invoke x.target x.args) w #[]
    generalize (Sem.runT p (invoke x.target x.args) w #[]).fst = r at hr ⊢
    have hk : ∀ a w', r = .ok a w' → d ≤ w'.drawn := fun a w' e => by rw [e] at hr; exact Nat.le_trans h hr
    have hh : ∀ a w', r = .halt a w' → d ≤ w'.drawn := fun a w' e => by rw [e] at hr; exact Nat.le_trans h hr
    clear hr
    split
    all_goals first
      | exact True.intro
      | exact hk _ _ rfl
      | exact hh _ _ rfl
      | exact endFatal_ok (hh _ _ rfl)
      | exact endThrow_ok (hh _ _ rfl)
      | (split <;> exact hk _ _ rfl)
theorem unwind_ok {main : Bool} (h : d ≤ w.drawn) : GOk d (unwind p main fr callers dying w) := by
  unfold unwind
  dsimp only
  split
  · refine GOk.after ?_
    split
    · exact runT_ok h (Prod.ext (by assumption) rfl)
    · exact True.intro
  · exact callDeferred_ok h
  · split
    · exact True.intro
    · split
      · exact True.intro
      · split
        · exact h
        · split
          · split
            · exact h
            · split
              · exact run_ok h (by assumption)
              · exact True.intro
              · exact True.intro
          · split
            · exact endPrinting_ok h
            · exact True.intro
    · split
      · exact doReturn_ok h
      · refine GOk.after ?_
        split
        · exact doReturn_ok (runT_ok h (Prod.ext (by assumption) rfl))
        · exact True.intro
        · exact True.intro
theorem early_ok {g : Nat} (h : d ≤ w.drawn) : GOk d (early p fr callers dying g w) := by
  unfold early
  dsimp only
  repeat' split
  all_goals first
    | exact h
    | exact True.intro
    | (have hq := run_ok h ‹Sem.run p (choose (Question.early g)) w = Result.ok _ _›; exact hq)
theorem apply_ok {s : Sem Next} {listen : Bool} (h : d ≤ w.drawn) : GOk d (stepG.apply p listen fr callers dying s w) := by
  unfold stepG.apply
  dsimp only
  have hr : Rge w.drawn (if listen = true then s.runT p w #[] else (s.run p w, #[])).fst := by
    split
    · exact runT_ge p s w #[]
    · exact run_ge p s w
  generalize (if listen = true then s.runT p w #[] else (s.run p w, #[])) = r0 at hr ⊢
  obtain ⟨r, es⟩ := r0
  dsimp only at hr ⊢
  refine GOk.after ?_
  have hk : ∀ a w', r = .ok a w' → d ≤ w'.drawn := fun a w' e => by rw [e] at hr; exact Nat.le_trans h hr
  have hh : ∀ a w', r = .halt a w' → d ≤ w'.drawn := fun a w' e => by rw [e] at hr; exact Nat.le_trans h hr
  clear hr
  split
  all_goals first
    | exact True.intro
    | exact hk _ _ rfl
    | exact hh _ _ rfl
    | exact endFatal_ok (hh _ _ rfl)
    | exact endThrow_ok (hh _ _ rfl)
    | exact early_ok (hh _ _ rfl)
    | (split <;> exact hk _ _ rfl)
    | exact GOk.ite (endThrow_ok (hk _ _ rfl)) (hk _ _ rfl)
theorem oper_ok {listen : Bool} (h : d ≤ w.drawn) : GOk d (stepG.oper p listen fr callers dying w) := by
  unfold stepG.oper
  split
  · exact True.intro
  · split <;> exact apply_ok h
theorem elim_ok {α : Type} {o : Option α} {a : GStep} {f : α → GStep} (ha : GOk d a) (hf : ∀ x, GOk d (f x)) : GOk d (o.elim a f) := by
  cases o
  · exact ha
  · exact hf _
theorem exec_ok {main listen : Bool} (h : d ≤ w.drawn) : GOk d (stepG.exec p main listen fr callers dying w) := by
  unfold stepG.exec
  dsimp only
  split
  case h_1 => (split; exact GOk.ite (by assumption) True.intro; refine GOk.after ?_; split; exact doReturn_ok (runT_ok (by assumption) (Prod.ext (by assumption) rfl)); exact True.intro)
  case h_2 => (split; exact GOk.ite (by assumption) True.intro; refine GOk.after ?_; split; exact doReturn_ok (runT_ok (by assumption) (Prod.ext (by assumption) rfl)); exact True.intro)
  all_goals first
    | exact h
    | exact True.intro
    | exact apply_ok h
    | exact GOk.ite (oper_ok h) h
    | exact elim_ok True.intro (fun _ => apply_ok h)
    | (refine elim_ok ?_ (fun _ => h); (split; exact GOk.ite (by assumption) True.intro; refine GOk.after ?_; split; exact doReturn_ok (runT_ok (by assumption) (Prod.ext (by assumption) rfl)); exact True.intro))
    | (split; exact h; exact True.intro)
    | (split; exact h; split; exact run_ok h (by assumption); exact True.intro)
    | (refine GOk.after ?_; split; exact apply_ok (runT_ok h (Prod.ext (by assumption) rfl)); exact True.intro)
    | (refine GOk.after ?_; split; exact runT_ok h (Prod.ext (by assumption) rfl); exact runT_halt h (Prod.ext (by assumption) rfl); exact True.intro)
    | skip
theorem stepG_ok {main listen : Bool} {g : Goroutine} (h : d ≤ w.drawn) : GOk d (stepG p main g w listen) := by
  obtain ⟨fr, callers, status, dying, offers⟩ := g
  unfold stepG
  dsimp only
  split
  · exact die_ok h
  · exact exec_ok h
  · exact unwind_ok h
theorem SOk.ite {c : Prop} [Decidable c] {a b : Stepped} (ha : SOk d a) (hb : SOk d b) : SOk d (if c then a else b) := by
  split
  · exact ha
  · exact hb
theorem communicate_ok {rest : Rest} {gs : Array Goroutine} {i : Nat} {g : Goroutine} {cases : Array CommCase} {b : Bool} {sh : CommShape} (h : d ≤ w.drawn) : SOk d (communicate p rest gs i g cases b sh w).1 := by
  unfold communicate
  dsimp only
  split
  · exact True.intro
  split
  · split
    · split
      · rename_i w' hw
        show d ≤ w'.drawn
        unfold waitingAt at hw
        repeat' split at hw
        all_goals first | (cases hw; done) | (simp only [Option.some.injEq] at hw; rw [← hw]; exact h)
      · exact True.intro
    · exact h
  · split
    · exact True.intro
    · rename_i hr
      have h1 := run_ok h hr
      clear hr
      split
      · split
        · rename_i hr2
          exact run_halt h1 hr2
        · exact True.intro
      · exact h1
      · exact h1
      · split
        · exact h1
        · split
          · rename_i hr2
            have hq := run_ok h1 hr2
            exact hq
          · exact True.intro
      · exact h1
      · exact h1
      · exact True.intro
theorem drain_drawn (w : World) (c : Nat) : (drain w c).2.drawn = w.drawn := by
  unfold drain
  split <;> rfl
theorem retime_drawn (m : Machine) (k : Nat) (t : Timer) (a b : Nat) : (retime m k t a b).2.world.drawn = m.world.drawn := by
  unfold retime
  dsimp only
  split
  · exact drain_drawn _ _
  · rfl
theorem timerOp_drawn {m m' : Machine} {op : TimerOp} {v : Value} (e : timerOp m op = .ok (v, m')) : m'.world.drawn = m.world.drawn := by
  have named : ∀ (m0 : Machine) (a : Addr) (f : Nat → Timer → Value × Machine) (x : Value × Machine), timerOp.named m a f = .ok x → (∀ k t, (f k t).2.world.drawn = m0.world.drawn) → x.2.world.drawn = m0.world.drawn := by
    intro m0 a f x hx hf
    unfold timerOp.named at hx
    split at hx
    · simp only [Except.ok.injEq] at hx
      rw [← hx]
      exact hf _ _
    · cases hx
  unfold timerOp at e
  split at e
  · split at e
    · simp only [Except.ok.injEq, Prod.mk.injEq] at e
      rw [← e.2]; rfl
    · split at e
      · split at e
        · cases e
        · simp only [Except.ok.injEq, Prod.mk.injEq] at e
          rw [← e.2]
      · cases e
  · exact named m _ _ _ e (fun k t => retime_drawn _ _ _ _ _)
  · split at e
    · rename_i m1 hm1
      have h1 : m1.world.drawn = m.world.drawn := by
        unfold timerOp.opened at hm1
        repeat' split at hm1
        all_goals first | (cases hm1; done) | (simp only [Option.some.injEq] at hm1; rw [← hm1])
      rw [← h1]
      exact named m1 _ _ _ e (fun k t => retime_drawn _ _ _ _ _)
    · cases e
  · simp only [Except.ok.injEq, Prod.mk.injEq] at e
    rw [← e.2]; rfl
theorem look_ok {gs : Array Goroutine} {rest : Rest} (h : d ≤ w.drawn) : SOk d (look p gs rest w) := by
  unfold look
  dsimp only
  split
  · refine SOk.ite True.intro ?_
    split
    · exact True.intro
    · split
      · rename_i hr
        have hq := run_ok h hr
        exact hq
      · exact True.intro
      · exact True.intro
  · exact True.intro
theorem serve_ok {m : Machine} {k : Nat} (h : d ≤ m.world.drawn) : SOk d (serve p m k) := by
  unfold serve
  dsimp only
  split
  · exact True.intro
  · exact h
  · split
    · exact True.intro
    · exact h
theorem runT1_ok {m : Machine} {i : Nat} {listen : Bool} (h : d ≤ m.world.drawn) : SOk d (Go.runT p m i listen).1 := by
  unfold Go.runT
  dsimp only
  have hs := stepG_ok (p := p) (main := i == 0) (g := (m.gs.swapAt! i { (default : Goroutine) with status := .finished }).1) (listen := listen) h
  generalize stepG p (i == 0) (m.gs.swapAt! i { (default : Goroutine) with status := .finished }).1 m.world listen = s at hs ⊢
  cases s with
  | ended o w es => exact True.intro
  | comm g cases b sh w es => exact communicate_ok hs
  | go g w es => exact hs
  | spawn g c w es => exact hs
  | count g w es => exact SOk.ite True.intro hs
  | alone g on w es => exact hs
  | collect g w es => exact look_ok hs
  | watch g w es => exact hs
  | newcoro g c x w es => exact hs
  | coroswitch g c ex w es =>
    dsimp only
    split
    · exact hs
    · exact hs
    · exact True.intro
  | timer g op w es =>
    dsimp only
    split
    · rename_i hm
      exact Nat.le_trans hs (Nat.le_of_eq (timerOp_drawn hm).symm)
    · exact hs
    · exact True.intro
    · exact True.intro
def MOk (d : Nat) : Move → Prop
  | .goroutine m _ => d ≤ m.world.drawn
  | .machine s _ => SOk d s
theorem SOk.endWith {n : Nat} {t : _root_.ByteArray} {o : Outcome} : MOk d (match endWith w n t o with
    | .ended o w _ => .machine (.ended o w)
    | _ => .machine (.ended (.stuck "" "") default)) := by
  split <;> exact True.intro
theorem pick_ok {m : Machine} {rs : List Nat} (h : d ≤ m.world.drawn) : MOk d (
      match (choose (.sched rs.length)).run p m.world with
      | .halt _ w => .machine (.ended (.stuck "sched" "") w)
      | .ok k world =>
        if rs.length ≤ 1 then .goroutine { m with world } (rs.getD k 0) else
        match (choose (.extern "sched.slice" 65536)).run p world with
        | .halt _ w => .machine (.ended (.stuck "sched.slice" "") w)
        | .ok n world => .goroutine { m with world, rest := { m.rest with slice := if n = 0 then none else some (rs.getD k 0, n) } } (rs.getD k 0)) := by
  split
  · exact True.intro
  · rename_i h1
    have h2 := run_ok h h1
    split
    · exact h2
    · split
      · exact True.intro
      · rename_i h3
        have h4 := run_ok h2 h3
        exact h4
theorem askOn_ok {m : Machine} (h : d ≤ m.world.drawn) : MOk d (askOn p m) := by
  unfold askOn
  dsimp only
  split
  · exact True.intro
  · rename_i h1
    have h2 := run_ok h h1
    split
    · exact serve_ok h2
    · split
      · split
        · exact h2
        · split
          · exact h2
          · exact SOk.endWith
      · split
        · exact pick_ok (m := { m with world := _ }) h2
        · split
          · exact True.intro
          · rename_i h3
            have h4 := run_ok h2 h3
            exact pick_ok (m := { m with world := _ }) h4
          · rename_i h3
            have h4 := run_ok h2 h3
            exact h4
          · rename_i h3
            have h4 := run_ok h2 h3
            exact pick_ok (m := Machine.advanceTo { m with world := _ } _) h4
theorem ask_ok {m : Machine} (h : d ≤ m.world.drawn) : MOk d (Go.ask p m) := by
  unfold Go.ask
  split
  · split
    · exact True.intro
    · rename_i h1
      have h2 := run_ok h h1
      have h3 := look_ok (p := p) (gs := m.gs) (rest := m.rest) h2
      split
      · rename_i h4
        rw [h4] at h3
        exact askOn_ok h3
      · exact h3
    · rename_i h1
      have h2 := run_ok h h1
      exact askOn_ok h2
  · exact askOn_ok h
theorem move_ok {m : Machine} (h : d ≤ m.world.drawn) : MOk d (move p m) := by
  unfold move
  split
  · split
    · exact h
    · exact True.intro
  · split
    · split
      · exact h
      · exact ask_ok h
    · exact ask_ok h
theorem step_ok {m : Machine} (h : d ≤ m.world.drawn) : SOk d (step p m) := by
  unfold step stepT
  have hm := move_ok (p := p) h
  split
  · rename_i e
    rw [e] at hm
    exact runT1_ok hm
  · rename_i e
    rw [e] at hm
    exact hm
theorem runN_ok {n : Nat} {m : Machine} (h : d ≤ m.world.drawn) : SOk d (runN p n m) := by
  induction n generalizing m with
  | zero => exact h
  | succ n ih =>
    unfold runN
    have hs := step_ok (p := p) h
    split
    · rename_i e
      rw [e] at hs
      exact ih hs
    · exact hs
end
theorem steps_drawn {P : Program} {m m' : Machine} (h : Steps P m m') : m.world.drawn ≤ m'.world.drawn := by
  obtain ⟨n, hn⟩ := h
  have := runN_ok (p := P) (n := n) (Nat.le_refl m.world.drawn)
  rw [hn] at this
  exact this
theorem calls_drawn {P : Program} {f : FuncId} {args : Array Value} {w : World} {R : Ending → World → Prop} (h : Calls P f args w R) (hr : ∀ w', ¬ R .outgrown w') : Calls P f args w fun e w' => R e w' ∧ w.drawn ≤ w'.drawn := by
  intro cs
  obtain ⟨e, w', fr, h1, h2, h3, h4⟩ := h cs
  refine ⟨e, w', fr, ⟨h1, ?_⟩, h2, h3, h4⟩
  cases e with
  | returned v => exact steps_drawn h2
  | panicked c => exact steps_drawn h2
  | outgrown => exact absurd h1 (hr w')
open Go.RowKit in
theorem grow_of_below {w w' : World} (h : Below w.heap.size w w') (hd : w.drawn ≤ w'.drawn) : ∃ q os, w' = Sort.grow (w.drewN q) os := by
  refine ⟨w'.drawn - w.drawn, w'.heap.extract w.heap.size w'.heap.size, ?_⟩
  have h1 : w'.heap = w.heap ++ w'.heap.extract w.heap.size w'.heap.size := by
    apply Array.ext_getElem?
    intro i
    rw [Array.getElem?_append]
    have hs := h.size
    split
    · rename_i hi
      exact h.block i hi
    · rename_i hi
      rw [Array.getElem?_extract]
      by_cases hj : i < w'.heap.size
      · have : w.heap.size + (i - w.heap.size) = i := by omega
        rw [this]; simp; omega
      · rw [Array.getElem?_eq_none (by omega)]
        split
        · rw [Array.getElem?_eq_none (by omega)]
        · rfl
  cases w' with
  | mk heap tape drawn os output =>
    have h2 := h.os; have h3 := h.tape; have h4 := h.output
    simp only at h1 h2 h3 h4 hd
    subst h2; subst h3; subst h4
    unfold Sort.grow World.drewN
    simp only [World.mk.injEq, true_and, and_true]
    exact ⟨h1, by omega⟩
end Go.Proofs.YtpnncoinlopndaaGreatDoor

namespace Go.Proofs.YtpnncoinlopndaaGreatDoor
open Go.RowKit Go.Shelf Go.Sort
def cmpI (rs : List Int) (i k : Nat) : Int := if sgnI (rs.getD k 0 - rs.getD i 0) ≠ 0 then sgnI (rs.getD k 0 - rs.getD i 0) else Lib.compareInt i k
def encF (n : Nat) (i : Fin n) : Value := .int .i64 (i.val : Nat)
def cmpF (rs : List Int) (n : Nat) (x y : Fin n) : Int := cmpI rs x.val y.val
theorem ltF (rs : List Int) (n : Nat) (x y : Fin n) : ltOf (cmpF rs n) x y = !befB rs y.val x.val := by
  unfold ltOf cmpF cmpI befB sgnI Lib.compareInt
  generalize rs.getD x.val 0 = a
  generalize rs.getD y.val 0 = b
  rw [Bool.eq_iff_iff]
  simp only [decide_eq_true_eq, Bool.not_eq_true', decide_eq_false_iff_not]
  repeat' split
  all_goals omega
theorem swoF (rs : List Int) (n : Nat) : SWO (ltOf (cmpF rs n)) where
  irrefl x := by rw [ltF]; unfold befB; simp
  trans x y z h1 h2 := by rw [ltF] at *; unfold befB at *; simp only [Bool.not_eq_true', decide_eq_false_iff_not] at *; omega
  ntrans x y z h1 h2 := by rw [ltF] at *; unfold befB at *; simp only [Bool.not_eq_false', decide_eq_true_eq] at *; omega
theorem totF (rs : List Int) (n : Nat) (x y : Fin n) (h1 : ltOf (cmpF rs n) x y = false) (h2 : ltOf (cmpF rs n) y x = false) : x = y := by
  rw [ltF] at *
  unfold befB at *
  simp only [Bool.not_eq_false', decide_eq_true_eq] at *
  apply Fin.ext
  omega
def allF (n : Nat) : Array (Fin n) := (List.finRange n).toArray
theorem allF_size (n : Nat) : (allF n).size = n := by simp [allF]
theorem allF_val (n : Nat) : (allF n).toList.map Fin.val = List.range n := by
  unfold allF
  refine List.ext_getElem (by simp) fun i h1 h2 => ?_
  simp
theorem sorted_val (rs : List Int) (n : Nat) (hn : rs.length = n) : ((allF n).toList.mergeSort fun x y => !ltOf (cmpF rs n) y x).map Fin.val = ordL rs := by
  unfold ordL
  rw [List.map_mergeSort (s := befB rs), allF_val, hn]
  intro a _ b _
  rw [ltF]; simp
def idxV (l : List Nat) : Array Value := (l.map fun k => Value.int .i64 (k : Nat)).toArray
theorem holds_all (n : Nat) [Inhabited (Fin n)] {w : World} {p : Nat} {T : TypeId} (hB : BlkB w p (idxV (List.range n)) T) : Holds (encF n) w p 0 (allF n) := by
  intro j hj
  rw [allF_size] at hj
  refine ⟨?_, hB.frozen _⟩
  rw [Nat.zero_add]
  refine hB.cell j ?_
  have h1 : (allF n)[j]! = ⟨j, hj⟩ := by
    rw [getElem!_pos _ j (by rw [allF_size]; exact hj)]
    simp [allF]
  rw [h1]
  simp [idxV, encF, hj]
theorem putCells_all (n : Nat) [Inhabited (Fin n)] (cur : Array Value) (l : List (Fin n)) (hc : cur.size = n) (hl : l.length = n) : putCells (encF n) 0 l.toArray cur = idxV (l.map Fin.val) := by
  apply Array.ext_getElem?
  intro k
  simp only [putCells, Array.getElem?_mapIdx, idxV, List.getElem?_toArray, List.getElem?_map, List.map_map]
  by_cases hk : k < n
  · have h1 : cur[k]? = some cur[k] := Array.getElem?_eq_getElem (by omega)
    rw [h1]
    have h2 : l[k]? = some l[k] := List.getElem?_eq_getElem (by omega)
    simp only [Option.map_some, Nat.zero_le, true_and, Nat.zero_add, Nat.sub_zero, h2]
    rw [if_pos (by simp; omega)]
    have h3 : l.toArray[k]! = l[k] := by rw [getElem!_pos _ k (by simp; omega)]; simp
    rw [h3]
    rfl
  · rw [Array.getElem?_eq_none (by omega), List.getElem?_eq_none (by omega)]
    rfl
theorem grownBy_sortF (n : Nat) [Inhabited (Fin n)] {w : World} {g m : Nat} {os : Array Obj} (d : Array (Fin n)) : w.grownBy (sortWorld (encF n) w g 0 m d os) (some g) := by
  refine ⟨rfl, rfl, rfl, by simp [sortWorld], fun k hk hne => ?_⟩
  unfold sortWorld
  rw [heap_grow_old _ _ (by simpa using hk)]
  have : g ≠ k := fun e => hne (by rw [e])
  simp [putRow, mapBlock, Sort.ahead, Array.getElem?_modify, this]
theorem blk_sortF (n : Nat) [Inhabited (Fin n)] {w : World} {p m : Nat} {T : TypeId} {cur : Array Value} {os : Array Obj} (l : List (Fin n)) (hB : BlkB w p cur T) (hc : cur.size = n) (hl : l.length = n) : BlkB (sortWorld (encF n) w p 0 m l.toArray os) p (idxV (l.map Fin.val)) T := by
  unfold BlkB sortWorld
  have hg := hB.lt
  rw [heap_grow_old _ _ (by simpa using hg)]
  unfold BlkB at hB
  simp only [putRow, mapBlock, Sort.ahead, Array.getElem?_modify, hB, onCells, if_pos, Option.map_some]
  rw [putCells_all n cur l hc hl]
theorem below_of_grownBy {w w' : World} {B p : Nat} (h : w.grownBy w' (some p)) (hB : B ≤ p) (hs : B ≤ w.heap.size) : Below B w w' :=
  ⟨h.os, h.tape, h.output, h.size, fun k hk => h.block k (by omega) (fun e => by injection e with e; omega)⟩
theorem sort_idx {P : Program} {ρ : Ren} (L : SlLaysF.n6 P ρ) (g : Nat) (cb : Array Value) (rs : List Int) (n p cap : Nat) (W : World) (T : TypeId) (hn : rs.length = n) (h0 : 0 < n) (h1 : n < 4611686018427387904)
    (eg : ∀ args w, (callFunc g args).run P w = .ok (.enter g args) w) (hB : BlkB W p (idxV (List.range n)) T)
    (hcmp : ∀ W', W.grownBy W' (some p) → ∀ x y : Nat, x < n → y < n → Calls P g (#[.int .i64 x, .int .i64 y] ++ cb) W' fun e w' => e = .returned (.int .i64 (cmpI rs x y)) ∧ Below W'.heap.size W' w') :
    Calls P (ρ.f 6) #[.slice (some ⟨p, 0, none⟩) n cap, .func (.func g) #[] cb] W fun e w' => e = .returned (.tuple #[]) ∧ W.grownBy w' (some p) ∧ BlkB w' p (idxV (ordL rs)) T := by
  obtain ⟨m, rfl⟩ : ∃ m, n = m + 1 := ⟨n - 1, by omega⟩
  have hsz := allF_size (m + 1)
  have h := Any.slices_SortFunc_total L (encF (m + 1)) (fun _ => rfl) (cmpF rs (m + 1)) (swoF rs (m + 1)) g cb p 0 cap (allF (m + 1)) W eg
    (fun q os dk _ x y => by
      have h2 := calls_drawn (hcmp (sortWorld (encF (m + 1)) W p 0 q dk os) (grownBy_sortF (m + 1) dk) x.val y.val x.isLt y.isLt) (fun w' hw => by cases hw.1)
      refine h2.mono fun e w' h3 => ⟨h3.1.1, grow_of_below h3.1.2 h3.2⟩)
    (holds_all (m + 1) hB) hB.lt (by rw [hsz]; exact h1) (totF rs (m + 1))
  rw [hsz] at h
  refine h.mono ?_
  rintro e w' ⟨he, q, os, rfl⟩
  refine ⟨he, grownBy_sortF (m + 1) _, ?_⟩
  have h3 := blk_sortF (m + 1) (w := W) (p := p) (m := q) (T := T) (os := os) ((allF (m + 1)).toList.mergeSort fun x y => !ltOf (cmpF rs (m + 1)) y x) hB (by simp [idxV]) (by simp [hsz])
  rw [sorted_val rs (m + 1) hn] at h3
  exact h3
section
variable {w W W' : World} {p i : Nat} {cs ds : Array Value} {T : TypeId} {bs : List (Nat × Array Value × TypeId)}
theorem Kp.grown (h : Kp w bs W) (hg : W.grownBy W' (some p)) (hb : bs[i]? = some (p, cs, T)) (hd : BlkB W' p ds T) : Kp w (bs.set i (p, ds, T)) W' := by
  have hm : (bs.set i (p, ds, T)).map (·.1) = bs.map (·.1) := by
    refine List.ext_getElem? fun k => ?_
    rw [List.getElem?_map, List.getElem?_map, List.getElem?_set]
    split
    · rename_i e
      subst e
      rw [hb]
      split
      · rfl
      · rename_i e2; exact absurd (List.getElem?_eq_some_iff.1 hb).1 e2
    · rfl
  refine ⟨h.pow, h.bl.trans (below_of_grownBy hg (h.old i hb) h.bl.size), ?_, by rw [hm]; exact h.ord, ?_⟩
  · intro b hx
    rcases List.mem_or_eq_of_mem_set hx with hx | rfl
    · exact h.own b hx
    · exact h.old i hb
  · intro b hx
    obtain ⟨k, hk⟩ := List.getElem?_of_mem hx
    rw [List.getElem?_set] at hk
    split at hk
    · split at hk
      · injection hk with hk
        subst hk
        exact hd
      · cases hk
    · rename_i hik
      obtain ⟨q, es, U⟩ := b
      have hq := h.at_ k hk
      have hne := h.ne k i hk hb (fun e => hik e.symm)
      exact (hg.block q hq.lt (fun e => hne (by injection e))).trans hq
end
end Go.Proofs.YtpnncoinlopndaaGreatDoor

namespace Go.Proofs.YtpnncoinlopndaaGreatDoor
open Go.RowKit Go.Shelf
set_option maxRecDepth 20000 in
theorem or_any (a b : Int) (bl : Nat) (w : World) (h0 : w.cell? ⟨bl, 0, none⟩ = some (.int .i64 a)) (h1 : w.cell? ⟨bl, 1, none⟩ = some (.int .i64 b)) : Calls Tryz.prog 241 #[.slice (some ⟨bl, 0, none⟩) 2 2] w fun e w' => e = .returned (.int .i64 (if a ≠ 0 then a else b)) ∧ Below w.heap.size w w' := by
  have HR := Lib.hid (show ∀ r : Int, (a ≠ 0 → r = a) → (a = 0 → r = b) → (if a ≠ 0 then a else b) = r by
    intro r h1 h2
    by_cases h : a = 0
    · rw [if_neg (by simp [h]), h2 h]
    · rw [if_pos h, h1 h])
  generalize (if a ≠ 0 then a else b) = res at *
  have HB := Lib.hid (Below.refl w.heap.size w)
  go_enter Tryz.func241, Tryz.ntmps241
  go_wp2_with fail
  go_loop [8] (fun i => ∃ k : Nat, k ≤ 2 ∧ i = .int .i64 k ∧ Hid (1 ≤ k → a = 0) ∧ Hid (2 ≤ k → b = 0)) (fun i => 2 - (intOf i).toNat)
  case atStart => exact ⟨0, by omega, rfl, fun h => by omega, fun h => by omega⟩
  case round =>
    obtain ⟨k, hk, rfl, HA, HBB⟩ := hrel
    by_cases hlt : k < 2
    · obtain rfl | rfl : k = 0 ∨ k = 1 := by omega
      · by_cases ha : a = 0
        · have hx : (a != 0) = false := by simp [ha]
          have HA0 := Lib.hid ha
          clear ha HA HBB hk hlt
          go_wp2
          go_round
          case rel => exact ⟨1, by omega, by go_num, fun _ => HA0.out, fun h => by omega⟩
          case measure => simp [intOf]
        · have hx : (a != 0) = true := by simp [ha]
          have HE := Lib.hid (HR.out a (fun _ => rfl) (fun h => absurd h ha))
          clear ha HA HBB hk hlt
          go_wp2
          go_ret
          exact ⟨ret_int HE.out.symm, HB.out⟩
      · have HA0 := Lib.hid (HA.out (by omega))
        by_cases hb : b = 0
        · have hx : (b != 0) = false := by simp [hb]
          have HB0 := Lib.hid hb
          clear hb HA HBB hk hlt
          go_wp2
          go_round
          case rel => exact ⟨2, by omega, by go_num, fun _ => HA0.out, fun _ => HB0.out⟩
          case measure => simp [intOf]
        · have hx : (b != 0) = true := by simp [hb]
          have HE := Lib.hid (HR.out b (fun h => absurd HA0.out h) (fun _ => rfl))
          clear hb HA HBB hk hlt
          go_wp2
          go_ret
          exact ⟨ret_int HE.out.symm, HB.out⟩
    · obtain rfl : k = 2 := by omega
      have HE := Lib.hid (HR.out 0 (fun h => absurd (HA.out (by omega)) h) (fun _ => (HBB.out (by omega)).symm))
      clear HA HBB hk hlt
      go_wp2
      go_ret
      exact ⟨ret_int HE.out.symm, HB.out⟩
theorem or_new (a b : Int) (w : World) : Calls Tryz.prog 241 #[.slice (some ⟨w.heap.size, 0, none⟩) 2 2] (w.alloc (.cells #[.int .i64 a, .int .i64 b] 3)) fun e w' => e = .returned (.int .i64 (if a ≠ 0 then a else b)) ∧ Below w.heap.size w w' := by
  have hb := heap_alloc_new w (.cells #[.int .i64 a, .int .i64 b] 3)
  refine (or_any a b w.heap.size _ (cell_of_row _ _ 0 _ _ _ hb) (cell_of_row _ _ 1 _ _ _ hb)).mono ?_
  rintro e w' ⟨he, h⟩
  exact ⟨he, ((Below.refl w.heap.size w).alloc (Nat.le_refl _) _).trans (h.mono (by simp))⟩
set_option maxRecDepth 20000 in
set_option maxHeartbeats 1000000 in
theorem pos1_any (rs : List Int) (n R X : Nat) (i k : Nat) (hi : i < n) (hk : k < n) (hn : n ≤ 100000) (W : World) (hX : W.cell? ⟨X, 0, none⟩ = some (.slice (some ⟨R, 0, none⟩) n n)) (hR : ∀ j, j < n → W.cell? ⟨R, j, none⟩ = some (.string ⟨(txtL (rs.getD j 0)).toArray⟩)) (hl : ∀ j, (txtL (rs.getD j 0)).length ≤ 100000) :
    Calls Tryz.prog 240 (#[.int .i64 i, .int .i64 k] ++ #[.pointer (some ⟨X, 0, none⟩)]) W fun e w' => e = .returned (.int .i64 (cmpI rs i k)) ∧ Below W.heap.size W w' := by
  have HCM := Lib.hid (fun w => Compare_any (txtL (rs.getD k 0)) (txtL (rs.getD i 0)) w (hl k) (hl i))
  rw [val_txtL, val_txtL] at HCM
  have HCC := Lib.hid (fun w => Tryz.cmp_Compare_int i k w)
  have HRE := Lib.hid (show (if sgnI (rs.getD k 0 - rs.getD i 0) ≠ 0 then sgnI (rs.getD k 0 - rs.getD i 0) else Lib.compareInt i k) = cmpI rs i k from rfl)
  have HON := Lib.hid (fun w => or_new (sgnI (rs.getD k 0 - rs.getD i 0)) (Lib.compareInt i k) w)
  rw [HRE.out] at HON
  generalize cmpI rs i k = res at *
  have z1 := hR i hi
  have z2 := hR k hk
  have HZ := Lib.hid (show ∀ w', Below W.heap.size W w' → w'.cell? ⟨X, 0, none⟩ = some (.slice (some ⟨R, 0, none⟩) n n) ∧ w'.cell? ⟨R, i, none⟩ = some (.string ⟨(txtL (rs.getD i 0)).toArray⟩) ∧ w'.cell? ⟨R, k, none⟩ = some (.string ⟨(txtL (rs.getD k 0)).toArray⟩) from
    fun w' hb => ⟨(hb.cell (World.block_lt_of_cell? W _ hX)).trans hX, (hb.cell (World.block_lt_of_cell? W _ z1)).trans z1, (hb.cell (World.block_lt_of_cell? W _ z2)).trans z2⟩)
  generalize sgnI (rs.getD k 0 - rs.getD i 0) = aa at *
  generalize Lib.compareInt (i : Int) (k : Int) = bb at *
  generalize txtL (rs.getD i 0) = ti at *
  generalize txtL (rs.getD k 0) = tk at *
  clear hR hl HRE
  have HB := Lib.hid (Below.refl W.heap.size W)
  have i1 : (0 : Int) ≤ (i : Int) := by omega
  have i2 : (i : Int) < (n : Int) := by omega
  have k1 : (0 : Int) ≤ (k : Int) := by omega
  have k2 : (k : Int) < (n : Int) := by omega
  show Calls _ _ #[.int .i64 i, .int .i64 k, .pointer (some ⟨X, 0, none⟩)] _ _
  go_enter Tryz.func240, Tryz.ntmps240
  go_upto_region 1 with (fail)
  go_region_held3 (fun w' => w'.cell? ⟨X, 0, none⟩ = some (.slice (some ⟨R, 0, none⟩) n n) ∧ w'.cell? ⟨R, i, none⟩ = some (.string ⟨ti.toArray⟩) ∧ w'.cell? ⟨R, k, none⟩ = some (.string ⟨tk.toArray⟩))
    (first
      | exact HZ.out _ hz2
      | exact HZ.out _ hz
      | exact HZ.out _ (HB.out.alloc (Nat.le_refl _) _)
      | go_keep)
    (first
      | (go_at_call 58; refine (HCM.out _).mono ?_; rintro e w1 ⟨rfl, hb1⟩; have hz : Below W.heap.size W w1 := HB.out.drew.trans hb1)
      | (go_at_call 242; refine (HCC.out _).mono ?_; rintro e w2 ⟨rfl, rfl⟩)
      | (go_at_call 241; refine (HON.out _).mono ?_; rintro e w3 ⟨rfl, hb3⟩; have hz2 : Below W.heap.size W w3 := hz.trans (hb3.mono hz.size)))
  all_goals
    go_wp2_with fail
    first | go_ret | skip
    exact ⟨rfl, hz2⟩
end Go.Proofs.YtpnncoinlopndaaGreatDoor

namespace Go.Proofs.YtpnncoinlopndaaGreatDoor
open Go.RowKit Go.Shelf
def prtL (a : List UInt8) : List UInt8 := if canonL a = [] then [48] else canonL a
theorem prtL_nat (n : Nat) : prtL (txtL n) = if n = 0 then [48] else digs n := by
  have e : canonL (txtL n) = digs n := by rw [canon_val, val_txtL]; exact txtL_nat n
  unfold prtL
  rw [e]
  by_cases h : n = 0
  · subst h; rfl
  · rw [if_neg h, if_neg]
    intro e
    have := digs_pos n h
    rw [e] at this
    simp at this
theorem digs_len9 (n : Nat) (h : n < 100000000) : (digs n).length ≤ 9 := by
  have := txtL_length (n := (n : Int)) (L := 8) (by simpa using h)
  rw [txtL_nat] at this
  omega
theorem parse_prt (n : Nat) (h : n < 100000000) : Lib.parseIntB 64 (prtL (txtL n)) = .ok (n : Int) := by
  rw [prtL_nat]
  by_cases h0 : n = 0
  · subst h0; decide +kernel
  rw [if_neg h0]
  have hd := digs_dig n
  have hl := digs_len9 n h
  have hv := valD_digs n
  obtain ⟨b, l, e, h1, h2⟩ := digs_head n h0
  rw [e] at hd hl hv ⊢
  have hb : isDig b = true := by simp only [List.all_cons, Bool.and_eq_true] at hd; exact hd.1
  have hb2 := (isDig_iff b).1 hb
  have hp : Lib.parseUintB 64 (b :: l) = .ok n := by
    unfold Lib.parseUintB
    rw [if_neg (by simp), parseM (b :: l) 0 hd, hv]
    · simp
    · have : 10 ^ (b :: l).length ≤ 10 ^ 9 := Nat.pow_le_pow_right (by omega) hl
      omega
  unfold Lib.parseIntB
  simp only
  rw [if_neg (by omega), hp]
  simp only
  rw [if_neg (by omega), if_neg (by omega), if_neg (by omega)]
set_option maxRecDepth 20000 in
theorem print_any (a : List UInt8) (ha : a.length ≤ 1000000000) : Gives 129 #[S a] (S (prtL a)) := by
  intro w hp
  have HC := Lib.hid (canonical_any a w ha)
  have HP := Lib.hid (show prtL a = if canonL a = [] then [48] else canonL a from rfl)
  generalize prtL a = res at *
  generalize canonL a = t at *
  clear ha hp
  unfold S at *
  by_cases ht : t = []
  · subst ht
    rw [if_pos rfl] at HP
    go_enter Tryz.func129, Tryz.ntmps129
    go_wp2_with fail
    refine HC.out.mono ?_
    rintro e w1 ⟨rfl, hb⟩
    go_wp2_with fail
    first | go_ret | skip
    rw [HP.out]
    exact ⟨rfl, hb⟩
  · rw [if_neg ht] at HP
    have hx : (t == []) = false := beq_false_of_ne ht
    clear ht
    go_enter Tryz.func129, Tryz.ntmps129
    go_wp2_with fail
    refine HC.out.mono ?_
    rintro e w1 ⟨rfl, hb⟩
    go_wp2_with fail
    first | go_ret | skip
    rw [HP.out]
    exact ⟨rfl, hb⟩
set_option maxRecDepth 20000 in
theorem small_any (n : Nat) (h : n < 100000000) : Gives 243 #[S (txtL n)] (.tuple #[.int .i64 n, .bool true]) := by
  intro w hp
  have hl : (txtL n).length ≤ 9 := txtL_length (n := (n : Int)) (L := 8) (by simpa using h)
  have HPR := Lib.hid (print_any (txtL n) (by omega))
  have hpl : (prtL (txtL n)).length ≤ 9 := by
    rw [prtL_nat]
    split
    · simp
    · exact digs_len9 n h
  have HPI := Lib.hid (fun W => (Tryz.strconv_ParseInt_10_at64_ok ⟨(prtL (txtL n)).toArray⟩ (by rw [str_size]; omega) n (by rw [S_toList]; exact parse_prt n h) W))
  have H := Lib.hid (Kp.start hp)
  generalize prtL (txtL n) = t at *
  generalize txtL (n : Int) = a at *
  clear hp hl hpl h
  unfold S at *
  go_enter Tryz.func243, Tryz.ntmps243
  go_wp2_with fail
  refine (HPR.out _ H.out.pw).mono ?_
  rintro e w1 ⟨rfl, hb⟩
  replace H := Lib.hid (H.out.here hb)
  clear hb
  go_wp2_with fail
  refine (HPI.out _).mono ?_
  rintro e w2 ⟨rfl, hw⟩
  have hb : Below w1.heap.size w1 w2 := by
    rcases hw with rfl | ⟨t, rfl⟩
    · exact Below.refl _ _
    · exact Lib.bytesWorld_below w1 _ _
  replace H := Lib.hid (H.out.here hb)
  clear hb hw
  go_wp2_with fail
  first | go_ret2 | skip
  exact ⟨rfl, H.out.bl⟩
end Go.Proofs.YtpnncoinlopndaaGreatDoor

