/- Eop, Ex7, Ex9. -/
import Derived.Test.YtokjnjdbnabchaaGreatDoorQGEp40
import Derived.Test.YtokjnjdbnabchaaGreatDoorQGEp35
namespace Go.Proofs.YtokjnjdbnabchaaGreatDoor
section
open Go.RowKit Go.Shelf
attribute [local go_sem] Oper.semAt_some
attribute [local go_sem ↓] Go.wp_at_zero Go.wp_at_succ Qs QG
end
section
open Go
theorem ZhV{d:Int}{v:List Fct}{a b:Ky}:(QP d v (a,b)).isSome=(QP d v (b,a)).isSome:=by
 rw[Bool.eq_iff_iff,Zao,Zao]
 constructor<;>(rintro⟨f,hf,h1,h2⟩;refine⟨f,hf,h1,?_⟩;rcases h2 with h2|h2<;>(obtain⟨e1,e2⟩:=Prod.mk.inj h2;rw[e1,e2];simp))
end
section
open Go
theorem ZgL{R:Ky->Ky->Bool}{codes:List Ky}{a b:Ky}(hn:codes.Nodup)(hr:R a b=true)(hb:b∈codes)(hab:a≠b):(bfs R codes b (codes.length+1) [[a]] [a]).isSome=true:=by
 unfold bfs;rw[List.getLast?_singleton]
 dsimp only
 rw[if_neg hab,YT hn];have hm:b∈Xz R codes a [a]:=JZ.2 ⟨hb,hr,by simp;exact fun e=>hab e.symm⟩;refine Zcs hn (fun p hp=> ?_) ?_ ⟨[a]++[b],?_,by simp⟩
 ·rw[List.nil_append] at hp;obtain⟨c,hc,rfl⟩:=List.mem_map.1 hp
  exact⟨c,by simp,List.mem_append_left _ (List.mem_reverse.2 hc)⟩
 ·have h1:=ZbD (R:=R) (codes:=codes) (seen:=[a]) (x:=a);have h2:=List.length_filter_le (fun c=> !([a]:List Ky).contains c) codes;rw[List.nil_append,List.length_map]
  dsimp only
  omega
 ·rw[List.nil_append];exact List.mem_map.2 ⟨b,hm,rfl⟩
structure PathL (d:Int) (v:List Fct) (l:List Ky) (a b:Ky) (r:Fr):Prop where
 head:l[0]?=some a
 last:l[l.length-1]?=some b
 pos:0<l.length
 len:l.length<=2*v.length+1
 small:v.length<=1000
 rate:r=Qd (JH (QP d v) l (l.length-1))
 sz:∀i,i<=l.length->v.length<=100->(Qd (JH (QP d v) l i)).Sz 20000
 code:∀s∈l,s.length<=10
 pair:∀i k x y,i<k->l[i]?=some x->l[k]?=some y->∃f,diR d v x y=((f,decide (k=i+1)),0)/\f.Sz 20000/\(k=i+1->JH (QP d v) l i*f.rat=JH (QP d v) l (i+1))
structure PathsL (d:Int) (v:List Fct) (a b:Ky):Prop where
 err:(raR d v a b).2=(paR d v a b).2
 bad:(paR d v a b).2≠0->(paR d v a b).1=[]/\(raR d v a b).1=Fr.zero/\(diR d v a b).1.2=false
 ok:(paR d v a b).2=0->PathL d v (paR d v a b).1 a b (raR d v a b).1
theorem ZcW(d:Int)(v:List Fct)(a b:Ky):PathsL d v a b:=by
 by_cases h:QA v d [a,b]=0
 case neg=>
  have e1:diR d v a b=((Fr.zero,false),QA v d [a,b]):=if_pos h;have e2:paR d v a b=([],QA v d [a,b]):=if_pos h;have e3:raR d v a b=(Fr.zero,QA v d [a,b]):=if_pos h;rw[show PathsL d v a b↔PathsL d v a b from Iff.rfl];refine⟨by rw[e2,e3],fun _=>by rw[e1,e2,e3];exact⟨rfl,rfl,rfl⟩,fun h2=> ?_⟩;rw[e2] at h2;exact absurd h2 h
 obtain⟨hv,hd1,hd2,hcs⟩:=QB h
 have e1:diR d v a b=(if a=b then(Qd 1,true) else((QP d v (a,b)).getD Fr.zero,(QP d v (a,b)).isSome),0):=if_neg (by simpa using h)
 by_cases hl:Ys d v a b=[]
 ·have e2:paR d v a b=([],17):=by unfold paR;rw[if_neg (by simpa using h),if_pos hl]
  have e3:raR d v a b=(Fr.zero,17):=by unfold raR;rw[if_neg (by simpa using h),if_pos hl]
  have hab:a≠b:=by
   intro e;subst e;rw[show Ys d v a a=[a] from ZhP _ _ a] at hl
   cases hl
  have hno:(QP d v (a,b)).isSome=false:=by
   cases hq:(QP d v (a,b)).isSome
   ·rfl
   ·have hb:b∈cdL d v:=((XU d v).2 b).2 ⟨a,ZhV.symm.trans hq⟩;have h1:=ZgL (R:=fun x y=>(QP d v (x,y)).isSome) (Yi d v) hq hb hab;obtain⟨p,hp⟩:=Option.isSome_iff_exists.1 h1
    have h2:Ys d v a b=p:=by unfold Ys XK;rw[hp];rfl
    have h3:=(Zaa (Yi d v) BI.start hp).1;rw[<-h2,hl] at h3
    cases h3
  refine⟨by rw[e2,e3],fun _=> ?_,fun h2=> ?_⟩
  ·rw[e1,e2,e3,if_neg hab];exact⟨rfl,rfl,hno⟩
  ·rw[e2] at h2
   cases h2
 ·have e2:paR d v a b=(Ys d v a b,0):=by unfold paR;rw[if_neg (by simpa using h),if_neg hl]
  have e3:raR d v a b=(ZbQ (QP d v) (Ys d v a b),0):=by unfold raR;rw[if_neg (by simpa using h),if_neg hl]
  refine⟨by rw[e2,e3],fun h2=> ?_,fun _=> ?_⟩
  ·rw[e2] at h2;exact absurd rfl h2
  rw[e2,e3]
  dsimp only
  have hp:PaOk (QP d v) (cdL d v) a b (Ys d v a b):=ZbZ (Yi d v) hl;have hlen:=Zeg (v:=v) d a b
  have hcode:∀s∈Ys d v a b,Qp s=true:=fun s hs=>by
   rcases hp.mem hs with rfl|hs
   ·exact hcs _ (by simp)
   ·obtain⟨f,hf,h1,h2⟩:=ZbU.1 hs
    obtain⟨c1,c2,_⟩:=ZbR hv hf h1
    rcases h2 with rfl|rfl
    ·exact c1
    ·exact c2
  generalize Ys d v a b=l at*;have hrb:∀x r,QP d v x=some r->RbF 42 r:=fun x r hr=>(Zd9 hv hr).2.2.2.1
  refine⟨hp.head,by rw[<-List.getLast?_eq_getElem?];exact hp.last,List.length_pos_iff.2 hl,hlen,hv.len,rfl,fun i hi h1=> ?_,fun s hs=>by rw[YJ (hcode s hs)];omega,fun i k x y hik hx hy=> ?_⟩
  ·refine Yh (ZbP (by decide) hrb i) ?_;have:i*42<=201*42:=Nat.mul_le_mul_right 42 (by omega)
   omega
  ·have hex:QA v d [x,y]=0:=by
    unfold QA;rw[if_neg (by rw[(Ye v).2 hv];simp),if_neg (by omega),if_neg];simp[hcode x (List.mem_of_getElem? hx),hcode y (List.mem_of_getElem? hy)]
   obtain⟨hne,hfar⟩:=hp.far i k x y hik hx hy
   have e4:diR d v x y=(((QP d v (x,y)).getD Fr.zero,(QP d v (x,y)).isSome),0):=by
    unfold diR;rw[if_neg (by simpa using hex),if_neg hne]
   have hsz:((QP d v (x,y)).getD Fr.zero).Sz 20000:=by
    cases hq:QP d v (x,y) with
    |none=>exact⟨by decide,by decide⟩
    |some r=>exact⟨Nat.le_trans (hrb _ _ hq).2.1 (by decide),Nat.le_trans (hrb _ _ hq).2.2 (by decide)⟩
   have his:(QP d v (x,y)).isSome=decide (k=i+1):=by
    rw[Bool.eq_iff_iff,decide_eq_true_eq];refine⟨hfar,fun e=> ?_⟩;subst e;exact(hp.edge i x y hx hy).1
   refine⟨_,by rw[e4,his],hsz,fun e=> ?_⟩;subst e
   show JH (QP d v) l i*_=JH (QP d v) l i*(edF (QP d v) l i).rat
   unfold edF;rw[List.getD_eq_getElem?_getD,List.getD_eq_getElem?_getD,hx,hy];rfl
end
end Go.Proofs.YtokjnjdbnabchaaGreatDoor
