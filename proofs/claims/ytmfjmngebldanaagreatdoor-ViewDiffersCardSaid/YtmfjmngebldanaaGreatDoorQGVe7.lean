/- Dw. -/
import Derived.Calls
import Derived.Below
import Derived.Sort.Grow
import Derived.Deep.Draws
namespace Go.Proofs.YtmfjmngebldanaaGreatDoor
section
open Go
def Rge{α:Type}(d:Nat):Result α->Prop
 | .ok _ w=>d<=w.drawn
 | .halt _ w=>d<=w.drawn
theorem Zm4{α:Type}(q:Ask α)(w:World):w.drawn<=(w.ask q).2.drawn:=by
 induction q generalizing w with
 |done a=>simp[World.ask]
 |ask what range k ih=>
  simp only[World.ask]
  split
  ·exact ih _ _
  ·exact Nat.le_trans (Nat.le_succ _) (ih _ {w with drawn:=w.drawn+1})
theorem Zjw(w:World)(c:Sys):w.drawn<=(w.sys c).2.drawn:=by
 have h:=Zm4 (Kernel.perform c w.os) w;unfold World.sys
 split
 ·exact Nat.le_refl _
 ·rename_i h2;rw[h2] at h;exact h
theorem ZaA(w:World)(a:Addr)(n:Nat):(w.freeze a n).drawn=w.drawn:=by
 unfold World.freeze;split<;>rfl
theorem Je{p:Program}{w w':World}{a:Addr}{v:Value}{b:Bool}{l:List Addr}(h:w.farStore p a v b=.ok (w',l)):w'.drawn=w.drawn:=by
 unfold World.farStore at h
 split at h
 ·split at h
  ·rename_i r hr
   simp only[Except.ok.injEq] at h;subst h;unfold World.viewStore at hr;simp only[bind,Except.bind,pure,Except.pure] at hr
   repeat' split at hr
   all_goals first|(cases hr;done)|(simp only[Except.ok.injEq,Prod.mk.injEq] at hr;rw[<-hr.1])
  ·cases h
 ·cases h
theorem ZfX{α:Type}(p:Program)(s:Sem α)(w:World):Rge w.drawn (s.run p w):=by
 induction s generalizing w with
 |pure a=>simp[Sem.run,Rge]
 |load m a k ih=>
  simp only[Sem.run]
  split
  ·exact ih _ _
  ·split
   ·exact ih _ _
   ·simp[Rge]
 |store m a v k ih=>
  cases v
  all_goals
   simp only[Sem.run]
   try (simp only[Rge];exact Nat.le_refl _)
   try (
    split
    ·split
     ·simp[Rge]
     ·exact ih _
    ·split
     ·rename_i w' _ hf;have:=ih w';rw[Je hf] at this;exact this
     ·simp[Rge])
 |new o k ih=>simp only[Sem.run];exact ih _ _
 |shape r k ih=>simp only[Sem.run];exact ih _ _
 |freeze a n k ih=>simp only[Sem.run];have:=ih (w.freeze a n);rw[ZaA] at this;exact this
 |frozen a k ih=>simp only[Sem.run];exact ih _ _
 |getObj r k ih=>
  simp only[Sem.run]
  split
  ·simp[Rge]
  ·exact ih _ _
  ·simp[Rge]
 |setObj r o k ih=>
  simp only[Sem.run]
  split
  ·simp[Rge]
  ·exact ih _
  ·simp[Rge]
 |choose q k ih=>
  simp only[Sem.run]
  split
  ·exact ih _ _
  ·have:=ih (q.cut (w.tape w.drawn q)) {w with drawn:=w.drawn+1}
   revert this
   generalize Sem.run p _ _=r
   cases r<;>simp[Rge]<;>omega
 |sys c k ih=>
  simp only[Sem.run];have h1:=Zjw w c;have:=ih (w.sys c).1 (w.sys c).2
  revert this
  generalize Sem.run p _ _=r
  cases r<;>simp[Rge]<;>omega
 |program k ih=>simp only[Sem.run];exact ih _ _
 |mark m k ih=>simp only[Sem.run];exact ih _
 |halt h=>simp[Sem.run,Rge]
theorem ZbG{α:Type}(p:Program)(s:Sem α)(w:World)(es:Array Event):Rge w.drawn (s.runT p w es).1:=by
 induction s generalizing w es with
 |pure a=>simp[Sem.runT,Rge]
 |load m a k ih=>
  simp only[Sem.runT]
  split
  ·exact ih _ _ _
  ·split
   ·exact ih _ _ _
   ·simp[Rge]
 |store m a v k ih=>
  cases v
  all_goals
   simp only[Sem.runT]
   try (simp only[Rge];exact Nat.le_refl _)
   try (
    split
    ·split
     ·simp[Rge]
     ·exact ih _ _
    ·split
     ·rename_i w' l hf;have:=ih w' (es++l.toArray.map (⟨.cell ·, true,m== .atomic⟩));rw[Je hf] at this;exact this
     ·simp[Rge])
 |new o k ih=>simp only[Sem.runT];exact ih _ _ _
 |shape r k ih=>simp only[Sem.runT];exact ih _ _ _
 |freeze a n k ih=>simp only[Sem.runT];have:=ih (w.freeze a n) es;rw[ZaA] at this;exact this
 |frozen a k ih=>simp only[Sem.runT];exact ih _ _ _
 |getObj r k ih=>
  simp only[Sem.runT]
  split
  ·simp[Rge]
  ·exact ih _ _ _
  ·simp[Rge]
 |setObj r o k ih=>
  simp only[Sem.runT]
  split
  ·simp[Rge]
  ·exact ih _ _
  ·simp[Rge]
 |choose q k ih=>
  simp only[Sem.runT]
  split
  ·exact ih _ _ _
  ·have:=ih (q.cut (w.tape w.drawn q)) {w with drawn:=w.drawn+1} es
   revert this
   generalize Sem.runT p _ _ _=r;obtain⟨r,_⟩:=r
   cases r<;>simp[Rge]<;>omega
 |sys c k ih=>
  simp only[Sem.runT];have h1:=Zjw w c;have:=ih (w.sys c).1 (w.sys c).2 (es.push ⟨.output,true,false⟩)
  revert this
  generalize Sem.runT p _ _ _=r;obtain⟨r,_⟩:=r
  cases r<;>simp[Rge]<;>omega
 |program k ih=>simp only[Sem.runT];exact ih _ _ _
 |mark m k ih=>simp only[Sem.runT];exact ih _ _
 |halt h=>simp[Sem.runT,Rge]
theorem XK{α:Type}{p:Program}{s:Sem α}{w w':World}{a:α}{d:Nat}(h:d<=w.drawn)(e:s.run p w=.ok a w'):d<=w'.drawn:=by
 have:=ZfX p s w;rw[e] at this;exact Nat.le_trans h this
theorem Zjx{α:Type}{p:Program}{s:Sem α}{w w':World}{a:Halt}{d:Nat}(h:d<=w.drawn)(e:s.run p w=.halt a w'):d<=w'.drawn:=by
 have:=ZfX p s w;rw[e] at this;exact Nat.le_trans h this
theorem Ym{α:Type}{p:Program}{s:Sem α}{w w':World}{a:α}{d:Nat}{es es':Array Event}(h:d<=w.drawn)(e:s.runT p w es=(.ok a w',es')):d<=w'.drawn:=by
 have:=ZbG p s w es;rw[e] at this;exact Nat.le_trans h this
theorem Za2{α:Type}{p:Program}{s:Sem α}{w w':World}{a:Halt}{d:Nat}{es es':Array Event}(h:d<=w.drawn)(e:s.runT p w es=(.halt a w',es')):d<=w'.drawn:=by
 have:=ZbG p s w es;rw[e] at this;exact Nat.le_trans h this
def GOk(d:Nat):GStep->Prop
 | .go _ w _=>d<=w.drawn
 | .comm _ _ _ _ w _=>d<=w.drawn
 | .spawn _ _ w _=>d<=w.drawn
 | .count _ w _=>d<=w.drawn
 | .timer _ _ w _=>d<=w.drawn
 | .alone _ _ w _=>d<=w.drawn
 | .newcoro _ _ _ w _=>d<=w.drawn
 | .coroswitch _ _ _ w _=>d<=w.drawn
 | .collect _ w _=>d<=w.drawn
 | .watch _ w _=>d<=w.drawn
 | .ended .. =>True
theorem GOk.ite{d:Nat}{c:Prop}[Decidable c]{a b:GStep}(ha:GOk d a)(hb:GOk d b):GOk d (if c then a else b):=by
 split
 ·exact ha
 ·exact hb
theorem GOk.after{d:Nat}{es:Array Event}{s:GStep}(h:GOk d s):GOk d (GStep.after es s):=by
 cases s<;>exact h
def SOk(d:Nat):Stepped->Prop
 | .next m=>d<=m.world.drawn
 | .ended .. =>True
section
variable {p:Program} {fr:Frame} {callers:List Frame} {dying:Option Dying} {w:World} {d:Nat}
theorem Zjy{a:List _root_.ByteArray}{m:String}{b:Bool}(h:d<=w.drawn):GOk d (dieOf fr a m b w):=h
theorem Jf{m:String}(h:d<=w.drawn):GOk d (endThrow fr m w):=h
theorem Jg{v:Value}(h:d<=w.drawn):GOk d (endPrinting p fr v w):=by
 unfold endPrinting
 dsimp only
 split
 ·exact h
 ·exact True.intro
theorem Zbk{m:String}(h:d<=w.drawn):GOk d (endFatal p fr callers dying m w):=by
 unfold endFatal
 dsimp only
 split
 ·exact Zjy (XK h (by assumption))
 ·exact True.intro
 ·exact True.intro
theorem ZfY{n:Nat}{t:_root_.ByteArray}{o:Outcome}:GOk d (endWith w n t o):=by
 unfold endWith
 dsimp only
 split
 ·split<;>exact True.intro
 ·exact True.intro
 ·exact True.intro
theorem ZfZ{y:Dying}{f:Fatal}(h:d<=w.drawn):GOk d (writeOn p fr y f w):=by
 unfold writeOn
 dsimp only
 split
 ·exact True.intro
 ·split
  ·exact Ym h (by assumption)
  ·exact Za2 h (by assumption)
  ·exact True.intro
  ·exact True.intro
theorem Zm5{y:Dying}(h:d<=w.drawn):GOk d (die p fr y w):=by
 unfold die
 dsimp only
 split
 ·exact ZfZ h
 ·split
  ·split
   ·exact h
   ·exact ZfY
  ·split
   ·exact h
   ·split
    ·exact XK h (by assumption)
    ·exact True.intro
   ·refine GOk.after ?_
    split
    ·exact Ym h (Prod.ext (by assumption) rfl)
    ·exact Ym h (Prod.ext (by assumption) rfl)
    ·exact True.intro
    ·exact Jg (Za2 h (Prod.ext (by assumption) rfl))
    ·exact True.intro
   ·exact True.intro
theorem Yt{main:Bool}{v:Value}(h:d<=w.drawn):GOk d (doReturn p main fr callers dying v w):=by
 unfold doReturn
 dsimp only
 repeat' split
 all_goals first|exact h|exact True.intro
theorem Zbz{x:Deferred}(h:d<=w.drawn):GOk d (callDeferred p fr callers dying x w):=by
 unfold callDeferred
 dsimp only
 refine GOk.ite True.intro ?_
 ·refine GOk.after ?_;have hr:=ZbG p (invoke x.target x.args) w #[];generalize (Sem.runT p (invoke x.target x.args) w #[]).fst=r at hr ⊢;have hk:∀a w',r=.ok a w'->d<=w'.drawn:=fun a w' e=>by rw[e] at hr;exact Nat.le_trans h hr
  have hh:∀a w',r=.halt a w'->d<=w'.drawn:=fun a w' e=>by rw[e] at hr;exact Nat.le_trans h hr
  clear hr
  split
  all_goals first
   |exact True.intro
   |exact hk _ _ rfl
   |exact hh _ _ rfl
   |exact Zbk (hh _ _ rfl)
   |exact Jf (hh _ _ rfl)
   |(split<;>exact hk _ _ rfl)
theorem ZhV{main:Bool}(h:d<=w.drawn):GOk d (unwind p main fr callers dying w):=by
 unfold unwind
 dsimp only
 split
 ·refine GOk.after ?_
  split
  ·exact Ym h (Prod.ext (by assumption) rfl)
  ·exact True.intro
 ·exact Zbz h
 ·split
  ·exact True.intro
  ·split
   ·exact True.intro
   ·split
    ·exact h
    ·split
     ·split
      ·exact h
      ·split
       ·exact XK h (by assumption)
       ·exact True.intro
       ·exact True.intro
     ·split
      ·exact Jg h
      ·exact True.intro
  ·split
   ·exact Yt h
   ·refine GOk.after ?_
    split
    ·exact Yt (Ym h (Prod.ext (by assumption) rfl))
    ·exact True.intro
    ·exact True.intro
theorem Zjz{g:Nat}(h:d<=w.drawn):GOk d (early p fr callers dying g w):=by
 unfold early
 dsimp only
 repeat' split
 all_goals first
  |exact h
  |exact True.intro
  |(have hq:=XK h ‹Sem.run p (choose (Question.early g)) w=Result.ok _ _›; exact hq)
theorem ZaB{s:Sem Next}{listen:Bool}(h:d<=w.drawn):GOk d (stepG.apply p listen fr callers dying s w):=by
 unfold stepG.apply
 dsimp only
 have hr:Rge w.drawn (if listen=true then s.runT p w #[] else(s.run p w,#[])).fst:=by
  split
  ·exact ZbG p s w #[]
  ·exact ZfX p s w
 generalize (if listen=true then s.runT p w #[] else(s.run p w,#[]))=r0 at hr ⊢;obtain⟨r,es⟩:=r0
 dsimp only at hr ⊢
 refine GOk.after ?_;have hk:∀a w',r=.ok a w'->d<=w'.drawn:=fun a w' e=>by rw[e] at hr;exact Nat.le_trans h hr
 have hh:∀a w',r=.halt a w'->d<=w'.drawn:=fun a w' e=>by rw[e] at hr;exact Nat.le_trans h hr
 clear hr
 split
 all_goals first
  |exact True.intro
  |exact hk _ _ rfl
  |exact hh _ _ rfl
  |exact Zbk (hh _ _ rfl)
  |exact Jf (hh _ _ rfl)
  |exact Zjz (hh _ _ rfl)
  |(split<;>exact hk _ _ rfl)
  |exact GOk.ite (Jf (hk _ _ rfl)) (hk _ _ rfl)
theorem ZlA{listen:Bool}(h:d<=w.drawn):GOk d (stepG.oper p listen fr callers dying w):=by
 unfold stepG.oper
 split
 ·exact True.intro
 ·split<;>exact ZaB h
theorem Zg7{α:Type}{o:Option α}{a:GStep}{f:α->GStep}(ha:GOk d a)(hf:∀x,GOk d (f x)):GOk d (o.elim a f):=by
 cases o
 ·exact ha
 ·exact hf _
theorem ZlB{main listen:Bool}(h:d<=w.drawn):GOk d (stepG.exec p main listen fr callers dying w):=by
 unfold stepG.exec
 dsimp only
 split
 case h_1=>(split;exact GOk.ite (by assumption) True.intro;refine GOk.after ?_;split;exact Yt (Ym (by assumption) (Prod.ext (by assumption) rfl));exact True.intro)
 case h_2=>(split;exact GOk.ite (by assumption) True.intro;refine GOk.after ?_;split;exact Yt (Ym (by assumption) (Prod.ext (by assumption) rfl));exact True.intro)
 all_goals first
  |exact h
  |exact True.intro
  |exact ZaB h
  |exact GOk.ite (ZlA h) h
  |exact Zg7 True.intro (fun _=>ZaB h)
  |(refine Zg7 ?_ (fun _=>h);(split;exact GOk.ite (by assumption) True.intro;refine GOk.after ?_;split;exact Yt (Ym (by assumption) (Prod.ext (by assumption) rfl));exact True.intro))
  |(split;exact h;exact True.intro)
  |(split;exact h;split;exact XK h (by assumption);exact True.intro)
  |(refine GOk.after ?_;split;exact ZaB (Ym h (Prod.ext (by assumption) rfl));exact True.intro)
  |(refine GOk.after ?_;split;exact Ym h (Prod.ext (by assumption) rfl);exact Za2 h (Prod.ext (by assumption) rfl);exact True.intro)
  |skip
theorem ZjA{main listen:Bool}{g:Goroutine}(h:d<=w.drawn):GOk d (stepG p main g w listen):=by
 obtain⟨fr,callers,status,dying,offers⟩:=g
 unfold stepG
 dsimp only
 split
 ·exact Zm5 h
 ·exact ZlB h
 ·exact ZhV h
theorem SOk.ite{c:Prop}[Decidable c]{a b:Stepped}(ha:SOk d a)(hb:SOk d b):SOk d (if c then a else b):=by
 split
 ·exact ha
 ·exact hb
theorem Zb9{rest:Rest}{gs:Array Goroutine}{i:Nat}{g:Goroutine}{cases:Array CommCase}{b:Bool}{sh:CommShape}(h:d<=w.drawn):SOk d (communicate p rest gs i g cases b sh w).1:=by
 unfold communicate
 dsimp only
 split
 ·exact True.intro
 split
 ·split
  ·split
   ·rename_i w' hw
    show d<=w'.drawn
    unfold waitingAt at hw
    repeat' split at hw
    all_goals first|(cases hw;done)|(simp only[Option.some.injEq] at hw;rw[<-hw];exact h)
   ·exact True.intro
  ·exact h
 ·split
  ·exact True.intro
  ·rename_i hr
   have h1:=XK h hr;clear hr
   split
   ·split
    ·rename_i hr2
     exact Zjx h1 hr2
    ·exact True.intro
   ·exact h1
   ·exact h1
   ·split
    ·exact h1
    ·split
     ·rename_i hr2
      have hq:=XK h1 hr2;exact hq
     ·exact True.intro
   ·exact h1
   ·exact h1
   ·exact True.intro
theorem ZeM(w:World)(c:Nat):(drain w c).2.drawn=w.drawn:=by
 unfold drain
 split<;>rfl
theorem ZaC(m:Machine)(k:Nat)(t:Timer)(a b:Nat):(retime m k t a b).2.world.drawn=m.world.drawn:=by
 unfold retime
 dsimp only
 split
 ·exact ZeM _ _
 ·rfl
theorem ZcX{m m':Machine}{op:TimerOp}{v:Value}(e:timerOp m op=.ok (v,m')):m'.world.drawn=m.world.drawn:=by
 have named:∀(m0:Machine) (a:Addr) (f:Nat->Timer->Value×Machine) (x:Value×Machine),timerOp.named m a f=.ok x->(∀k t,(f k t).2.world.drawn=m0.world.drawn)->x.2.world.drawn=m0.world.drawn:=by
  intro m0 a f x hx hf;unfold timerOp.named at hx
  split at hx
  ·simp only[Except.ok.injEq] at hx;rw[<-hx];exact hf _ _
  ·cases hx
 unfold timerOp at e
 split at e
 ·split at e
  ·simp only[Except.ok.injEq,Prod.mk.injEq] at e;rw[<-e.2];rfl
  ·split at e
   ·split at e
    ·cases e
    ·simp only[Except.ok.injEq,Prod.mk.injEq] at e;rw[<-e.2]
   ·cases e
 ·exact named m _ _ _ e (fun k t=>ZaC _ _ _ _ _)
 ·split at e
  ·rename_i m1 hm1
   have h1:m1.world.drawn=m.world.drawn:=by
    unfold timerOp.opened at hm1
    repeat' split at hm1
    all_goals first|(cases hm1;done)|(simp only[Option.some.injEq] at hm1;rw[<-hm1])
   rw[<-h1];exact named m1 _ _ _ e (fun k t=>ZaC _ _ _ _ _)
  ·cases e
 ·simp only[Except.ok.injEq,Prod.mk.injEq] at e;rw[<-e.2];rfl
theorem Zg8{gs:Array Goroutine}{rest:Rest}(h:d<=w.drawn):SOk d (look p gs rest w):=by
 unfold look
 dsimp only
 split
 ·refine SOk.ite True.intro ?_
  split
  ·exact True.intro
  ·split
   ·rename_i hr
    have hq:=XK h hr;exact hq
   ·exact True.intro
   ·exact True.intro
 ·exact True.intro
theorem ZjB{m:Machine}{k:Nat}(h:d<=m.world.drawn):SOk d (serve p m k):=by
 unfold serve
 dsimp only
 split
 ·exact True.intro
 ·exact h
 ·split
  ·exact True.intro
  ·exact h
theorem ZjC{m:Machine}{i:Nat}{listen:Bool}(h:d<=m.world.drawn):SOk d (Go.runT p m i listen).1:=by
 unfold Go.runT
 dsimp only
 have hs:=ZjA (p:=p) (main:=i==0) (g:=(m.gs.swapAt! i {(default:Goroutine) with status:=.finished}).1) (listen:=listen) h;generalize stepG p (i==0) (m.gs.swapAt! i {(default:Goroutine) with status:=.finished}).1 m.world listen=s at hs ⊢
 cases s with
 |ended o w es=>exact True.intro
 |comm g cases b sh w es=>exact Zb9 hs
 |go g w es=>exact hs
 |spawn g c w es=>exact hs
 |count g w es=>exact SOk.ite True.intro hs
 |alone g on w es=>exact hs
 |collect g w es=>exact Zg8 hs
 |watch g w es=>exact hs
 |newcoro g c x w es=>exact hs
 |coroswitch g c ex w es=>
  dsimp only
  split
  ·exact hs
  ·exact hs
  ·exact True.intro
 |timer g op w es=>
  dsimp only
  split
  ·rename_i hm
   exact Nat.le_trans hs (Nat.le_of_eq (ZcX hm).symm)
  ·exact hs
  ·exact True.intro
  ·exact True.intro
def MOk(d:Nat):Move->Prop
 | .goroutine m _=>d<=m.world.drawn
 | .machine s _=>SOk d s
theorem SOk.endWith{n:Nat}{t:_root_.ByteArray}{o:Outcome}:MOk d (match endWith w n t o with
 | .ended o w _=>.machine (.ended o w)
 |_=>.machine (.ended (.stuck "" "") default)):=by
 split<;>exact True.intro
theorem Zd1{m:Machine}{rs:List Nat}(h:d<=m.world.drawn):MOk d (
 match (choose (.sched rs.length)).run p m.world with
 | .halt _ w=>.machine (.ended (.stuck "sched" "") w)
 | .ok k world=>
   if rs.length<=1 then .goroutine {m with world} (rs.getD k 0) else
   match (choose (.extern "sched.slice" 65536)).run p world with
   | .halt _ w=>.machine (.ended (.stuck "sched.slice" "") w)
   | .ok n world=>.goroutine {m with world,rest:={m.rest with slice:=if n=0 then none else some (rs.getD k 0,n)}} (rs.getD k 0)):=by
 split
 ·exact True.intro
 ·rename_i h1
  have h2:=XK h h1
  split
  ·exact h2
  ·split
   ·exact True.intro
   ·rename_i h3
    have h4:=XK h2 h3;exact h4
theorem Zca{m:Machine}(h:d<=m.world.drawn):MOk d (askOn p m):=by
 unfold askOn
 dsimp only
 split
 ·exact True.intro
 ·rename_i h1
  have h2:=XK h h1
  split
  ·exact ZjB h2
  ·split
   ·split
    ·exact h2
    ·split
     ·exact h2
     ·exact SOk.endWith
   ·split
    ·exact Zd1 (m:={m with world:=_}) h2
    ·split
     ·exact True.intro
     ·rename_i h3
      have h4:=XK h2 h3;exact Zd1 (m:={m with world:=_}) h4
     ·rename_i h3
      have h4:=XK h2 h3;exact h4
     ·rename_i h3
      have h4:=XK h2 h3;exact Zd1 (m:=Machine.advanceTo {m with world:=_} _) h4
theorem ZjD{m:Machine}(h:d<=m.world.drawn):MOk d (Go.ask p m):=by
 unfold Go.ask
 split
 ·split
  ·exact True.intro
  ·rename_i h1
   have h2:=XK h h1;have h3:=Zg8 (p:=p) (gs:=m.gs) (rest:=m.rest) h2
   split
   ·rename_i h4
    rw[h4] at h3;exact Zca h3
   ·exact h3
  ·rename_i h1
   have h2:=XK h h1;exact Zca h2
 ·exact Zca h
theorem ZlC{m:Machine}(h:d<=m.world.drawn):MOk d (move p m):=by
 unfold move
 split
 ·split
  ·exact h
  ·exact True.intro
 ·split
  ·split
   ·exact h
   ·exact ZjD h
  ·exact ZjD h
theorem ZlD{m:Machine}(h:d<=m.world.drawn):SOk d (step p m):=by
 unfold step stepT;have hm:=ZlC (p:=p) h
 split
 ·rename_i e
  rw[e] at hm;exact ZjC hm
 ·rename_i e
  rw[e] at hm;exact hm
theorem ZlE{n:Nat}{m:Machine}(h:d<=m.world.drawn):SOk d (runN p n m):=by
 induction n generalizing m with
 |zero=>exact h
 |succ n ih=>
  unfold runN;have hs:=ZlD (p:=p) h
  split
  ·rename_i e
   rw[e] at hs;exact ih hs
  ·exact hs
end
theorem Zbl{P:Program}{m m':Machine}(h:Steps P m m'):m.world.drawn<=m'.world.drawn:=by
 obtain⟨n,hn⟩:=h
 have:=ZlE (p:=P) (n:=n) (Nat.le_refl m.world.drawn)
 rw[hn] at this;exact this
theorem ZeN{P:Program}{f:FuncId}{args:Array Value}{w:World}{R:Ending->World->Prop}(h:Calls P f args w R)(hr:∀w',¬R .outgrown w'):Calls P f args w fun e w'=>R e w'/\w.drawn<=w'.drawn:=by
 intro cs;obtain⟨e,w',fr,h1,h2,h3,h4⟩:=h cs
 refine⟨e,w',fr,⟨h1,?_⟩,h2,h3,h4⟩
 cases e with
 |returned v=>exact Zbl h2
 |panicked c=>exact Zbl h2
 |outgrown=>exact absurd h1 (hr w')
open Go.RowKit in
theorem ZcY{w w':World}(h:Below w.1.size w w')(hd:w.drawn<=w'.drawn):∃q os,w'=Sort.grow (w.drewN q) os:=by
 refine⟨w'.drawn-w.drawn,w'.heap.extract w.1.size w'.1.size,?_⟩
 have h1:w'.heap=w.heap++w'.heap.extract w.1.size w'.1.size:=by
  apply Array.ext_getElem?
  intro i;rw[Array.getElem?_append];have hs:=h.size
  split
  ·rename_i hi
   exact h.block i hi
  ·rename_i hi
   rw[Array.getElem?_extract]
   by_cases hj:i<w'.1.size
   ·have:w.1.size+(i-w.1.size)=i:=by omega
    rw[this];simp;omega
   ·rw[Array.getElem?_eq_none (by omega)]
    split
    ·rw[Array.getElem?_eq_none (by omega)]
    ·rfl
 cases w' with
 |mk heap tape drawn os output=>
  have h2:=h.os;have h3:=h.tape;have h4:=h.output;simp only at h1 h2 h3 h4 hd
  subst h2;subst h3;subst h4
  unfold Sort.grow World.drewN;simp only[World.mk.injEq,true_and,and_true];exact⟨h1,by omega⟩
end
end Go.Proofs.YtmfjmngebldanaaGreatDoor
