/- Ex2, Ex3, Ex4, Ex5, Ex6. -/
import Derived.Test.YtokjnjdbnabchaaGreatDoorQGEp31
import Derived.Test.YtokjnjdbnabchaaGreatDoorQGEp12
namespace Go.Proofs.YtokjnjdbnabchaaGreatDoor
section
open Go
def isR(d:Int)(f:Fct):Bool:=f.kind==16&&decide (f.day<=d)
def Yf(d:Int)(o:Ky×Ky->Option Fr)(f:Fct):Ky×Ky->Option Fr:=if isR d f=true then fun p=>if p=(f.cur,f.other) then some f.ratio else o p else o
def Jv(d:Int)(v:List Fct):Ky×Ky->Option Fr:=v.foldl (Yf d) fun _=>none
def sw(p:Ky×Ky):Ky×Ky:=(p.2,p.1)
def ZbF(r:Fr):Fr:=(Ju 1 r.rat).1
def rtM(m:Ky×Ky->Option Fr)(p:Ky×Ky):Option Fr:=match m p with
 |some r=>some r
 |none=>(m (sw p)).map ZbF
def QP(d:Int)(v:List Fct)(p:Ky×Ky):Option Fr:=rtM (Jv d v) p
theorem ZfJ{d:Int}{v:List Fct}{k:Nat}{f:Fct}(h:v[k]?=some f):Jv d (v.take (k+1))=Yf d (Jv d (v.take k)) f:=by
 unfold Jv;rw[Zex h,List.foldl_append];rfl
theorem ZfK{d:Int}:∀{v:List Fct} {o:Ky×Ky->Option Fr} {p:Ky×Ky} {r:Fr},v.foldl (Yf d) o p=some r->o p=some r\/∃f∈v,isR d f=true/\p=(f.cur,f.other)/\f.ratio=r
 |[],o,p,r,h=>.inl h
 |f::v,o,p,r,h=>by
  rw[List.foldl_cons] at h
  rcases ZfK h with h|⟨g,hg,h2⟩
  ·unfold Yf at h
   split at h
   ·rename_i hr
    dsimp only at h
    by_cases e:p=(f.cur,f.other)
    ·rw[if_pos e] at h;exact .inr ⟨f,List.mem_cons_self ..,hr,e,Option.some.inj h⟩
    ·rw[if_neg e] at h;exact .inl h
   ·exact .inl h
  ·exact .inr ⟨g,List.mem_cons_of_mem _ hg,h2⟩
theorem ZbG{d:Int}{v:List Fct}{p:Ky×Ky}{r:Fr}(h:Jv d v p=some r):∃f∈v,isR d f=true/\p=(f.cur,f.other)/\f.ratio=r:=(ZfK h).resolve_left fun h=>by cases h
def Vb(m:Ky×Ky->Option Fr)(rem:Ky×Ky->Bool)(p:Ky×Ky):Option Fr:=match m p with
 |some r=>if rem p=true then none else some r
 |none=>match m (sw p) with
  |some r=>if rem (sw p)=true then none else some (ZbF r)
  |none=>none
theorem Zdn(m:Ky×Ky->Option Fr):Vb m (fun x=>(m x).isSome)=fun _=>none:=by
 funext p
 unfold Vb
 cases h:m p with
 |some r=>simp[h]
 |none=>
  dsimp only
  split
  ·rename_i r h2
   simp[h2]
  ·rfl
theorem Zey{m:Ky×Ky->Option Fr}{rem:Ky×Ky->Bool}(h:∀p r,m p=some r->rem p=false):Vb m rem=rtM m:=by
 funext p
 unfold Vb rtM
 cases h1:m p with
 |some r=>simp[h p r h1]
 |none=>
  simp only
  cases h2:m (sw p) with
  |some r=>simp[h _ r h2]
  |none=>rfl
theorem ZfL(p:Ky×Ky):sw (sw p)=p:=rfl
theorem Zez{m:Ky×Ky->Option Fr}{rem:Ky×Ky->Bool}{x:Ky×Ky}{r:Fr}(hx:m x=some r)(hb:(m (sw x)).isSome=true):
 Vb m (fun y=>rem y&& !decide (y=x))=fun p=>if p=x then some r else Vb m rem p:=by
 funext p
 unfold Vb
 by_cases e:p=x
 ·subst e;rw[if_pos rfl,hx];simp
 ·rw[if_neg e]
  cases h1:m p with
  |some q=>simp[e]
  |none=>
   simp only
   have e2:sw p≠x:=fun e2=>by
    rw[<-e2,ZfL,h1] at hb
    cases hb
   simp[e2]
theorem ZfM{m:Ky×Ky->Option Fr}{rem:Ky×Ky->Bool}{x:Ky×Ky}{r:Fr}(hx:m x=some r)(hb:m (sw x)=none):
 Vb m (fun y=>rem y&& !decide (y=x))=fun p=>if p=sw x then some (ZbF r) else if p=x then some r else Vb m rem p:=by
 have hne:sw x≠x:=fun e=>by rw[e,hx] at hb;cases hb
 funext p
 unfold Vb
 by_cases e0:p=sw x
 ·subst e0;rw[if_pos rfl,hb,ZfL,hx];simp
 ·rw[if_neg e0]
  by_cases e:p=x
  ·subst e;rw[if_pos rfl,hx];simp
  ·rw[if_neg e]
   cases h1:m p with
   |some q=>simp[e]
   |none=>
    simp only;have e2:sw p≠x:=fun e2=>e0 (by rw[<-e2,ZfL])
    simp[e2]
end
section
open Go
def edF(m:Ky×Ky->Option Fr)(l:List Ky)(j:Nat):Fr:=(m (l.getD j [],l.getD (j+1) [])).getD Fr.zero
def JH(m:Ky×Ky->Option Fr)(l:List Ky):Nat->Rat
 |0=>1
 |k+1=>JH m l k*(edF m l k).rat
def RbF(D:Nat)(f:Fr):Prop:=RB D f.rat/\f.Sz 1000
theorem Zd7{p q:Rat}{L M:Nat}(hp:RB L p)(hq:RB M q):RB (L+M) (p*q):=by
 have h:p*q=Rat.divInt (p.num*q.num) ((p.den:Int)*q.den):=by
  rw[<-Rat.divInt_mul_divInt,Rat.num_divInt_den,Rat.num_divInt_den]
 rw[h];have h1:=p.den_nz;have h2:=q.den_nz;refine RB.divInt (Qq hp.1 hq.1) (Qq (by simpa using hp.2) (by simpa using hq.2)) ?_;have:p.den*q.den≠0:=Nat.mul_ne_zero h1 h2
 exact_mod_cast this
theorem ZhM(D:Nat)(hD:1<=D):RbF D Fr.zero:=by
 refine⟨?_,by decide,by decide⟩;rw[Zb9];have:10^1<=10^D:=Nat.pow_le_pow_right (by omega) hD
 exact⟨by show 0<10^D;omega,by show 1<10^D;omega⟩
theorem ZbP{m:Ky×Ky->Option Fr}{l:List Ky}{D:Nat}(hD:1<=D)(hm:∀x r,m x=some r->RbF D r):∀k,RB (1+k*D) (JH m l k)
 |0=>⟨by show 1<10^_;simp,by show 1<10^_;simp⟩
 |k+1=>by
  have h1:=ZbP hD hm k (l:=l)
  have h2:RbF D (edF m l k):=by
   unfold edF
   cases h:m (l.getD k [],l.getD (k+1) []) with
   |none=>exact ZhM D hD
   |some r=>exact hm _ _ h
  have h3:=Zd7 h1 h2.1;rw[Nat.succ_mul,<-Nat.add_assoc];exact h3
theorem Yh{q:Rat}{L M:Nat}(h:RB L q)(hL:L+1<=M):(Qd q).Sz M:=by
 unfold Qd;refine⟨Nat.le_trans (Qk h.1) hL,?_⟩
 dsimp only
 split
 ·simp
 ·exact Nat.le_trans (Qk (by simpa using h.2)) hL
def ZbQ(m:Ky×Ky->Option Fr)(l:List Ky):Fr:=Qd (JH m l (l.length-1))
end
section
open Go
def XK(m:Ky×Ky->Option Fr)(codes:List Ky)(src tg:Ky):List Ky:=(bfs (fun x y=>(m (x,y)).isSome) codes tg (codes.length+1) [[src]] [src]).getD []
def CdM(m:Ky×Ky->Option Fr)(codes:List Ky):Prop:=codes.Pairwise (·< ·)/\∀a,a∈codes↔∃y,(m (a,y)).isSome=true
theorem Zan{m:Ky×Ky->Option Fr}{a b:List Ky}(ha:CdM m a)(hb:CdM m b):a=b:=by
 rw[Zad (a:=b) ha.1 fun k=>(ha.2 k).trans (hb.2 k).symm,<-Zad (a:=b) hb.1 fun k=>Iff.rfl]
theorem Zgt{p q:Bool}{g:Fr}(h:QT p q g=0):g.ok/\0<=g.rat/\(p=true->g.rat≠0)/\(q=true->g.rat<=1):=by
 unfold QT at h
 split at h
 ·cases h
 rename_i h1
 split at h
 ·cases h
 split at h
 ·cases h
 rename_i h3
 exact⟨Classical.not_not.1 h1,Rat.not_lt.1 fun a=>h3 (.inl a),fun a b=>h3 (.inr (.inl ⟨a,b⟩)),fun a=>Rat.not_lt.1 fun b=>h3 (.inr (.inr ⟨a,b⟩))⟩
theorem Jc(f:Fct)(r:KRow):∀(n i:Nat),Yx f r i n=0->∀j,i<=j->j<i+n->r.has j=true->XW f r j=0:=by
 intro n
 induction n with
 |zero=>intro i _ j h1 h2;omega
 |succ n ih=>
  intro i h j h1 h2 h3;unfold Yx at h
  by_cases e:i=j
  ·subst e;rw[if_pos h3] at h
   split at h
   ·rename_i h0;exact absurd h h0
   ·rename_i h0;exact Classical.not_not.1 h0
  ·split at h
   ·split at h
    ·rename_i h0;exact absurd h h0
    ·exact ih (i+1) h j (by omega) (by omega) h3
   ·split at h
    ·cases h
    ·exact ih (i+1) h j (by omega) (by omega) h3
theorem Zgu{f:Fct}(h:QL f=0)(hc:f.cancelled=false)(hk:f.kind=16):Qp f.cur=true/\Qp f.other=true/\f.other≠f.cur/\QT true false f.ratio=0:=by
 unfold QL at h
 split at h
 ·cases h
 split at h
 ·cases h
 rw[if_neg (by rw[hc];simp)] at h
 split at h
 ·cases h
 rw[hk] at h;have h':Yx f ⟨4,[(8,true,false)],[1,2],true⟩ 0 13=0:=h;have h1:=Jc f _ 13 0 h' 1 (by decide) (by decide) (by decide);have h2:=Jc f _ 13 0 h' 2 (by decide) (by decide) (by decide);have h8:=Jc f _ 13 0 h' 8 (by decide) (by decide) (by decide);simp only[XW,if_true] at h1 h2
 have e2:Qp f.cur=true:=by
  by_cases e:Qp f.cur=false
  ·rw[if_pos e] at h2;cases h2
  ·simpa using e
 by_cases e:Qp f.other=false
 ·rw[if_pos e] at h1;cases h1
 rw[if_neg e] at h1
 by_cases e3:f.other=f.cur
 ·rw[if_pos e3] at h1;cases h1
 exact⟨e2,by simpa using e,e3,h8⟩
theorem YJ{s:List UInt8}(h:Qp s=true):s.length=3:=by
 unfold Qp at h;rw[Bool.and_eq_true] at h;simpa using h.1
theorem Zd8(a:List UInt8):a.length<=JL a+1:=by unfold JL;split<;>omega
theorem ZhN{g:Fr}{p q:Bool}(h:QT p q g=0):g.Sz 41:=by
 unfold QT at h
 split at h
 ·cases h
 split at h
 ·cases h
 rename_i h2
 have h3:=Zd8 g.n;have h4:=Zd8 g.d;exact⟨by omega,by omega⟩
theorem Zit{q:Rat}{L:Nat}(h:RB L q)(h0:q≠0):RB L (1/q):=by
 rw[Rat.div_def,Rat.one_mul,Rat.inv_def];exact RB.divInt (by simpa using h.2) h.1 (fun e=>h0 (Rat.num_eq_zero.1 e))
theorem ZbR{v:List Fct}(hv:VwOk v){f:Fct}(hf:f∈v){d:Int}(hr:isR d f=true):Qp f.cur=true/\Qp f.other=true/\f.other≠f.cur/\QT true false f.ratio=0:=by
 unfold isR at hr;rw[Bool.and_eq_true] at hr;exact Zgu (hv.chk f hf).1 (hv.chk f hf).2.1 (by simpa using hr.1)
theorem Zh5{v:List Fct}(hv:VwOk v){d:Int}{p:Ky×Ky}{r:Fr}(h:Jv d v p=some r):Qp p.1=true/\Qp p.2=true/\p.2≠p.1/\RbF 42 r/\r.rat≠0/\0<=r.rat:=by
 obtain⟨f,hf,hr,rfl,rfl⟩:=ZbG h
 obtain⟨h1,h2,h3,h4⟩:=ZbR hv hf hr
 have h5:=Zgt h4;have h6:=ZhN h4;exact⟨h1,h2,h3,⟨(ZhX h6 (by decide)).more (by decide),by have:=h6.1;omega,by have:=h6.2;omega⟩,h5.2.2.1 rfl,h5.2.1⟩
theorem Ziu{r:Fr}(h:RbF 42 r)(h0:r.rat≠0):RbF 42 (ZbF r)/\(ZbF r).rat=1/r.rat:=by
 have h1:=Zit h.1 h0;have e:ZbF r=Qd (1/r.rat):=by unfold ZbF Ju;rw[if_neg h0]
 rw[e];exact⟨⟨by rw[QU];exact h1,Yh h1 (by decide)⟩,QU _⟩
theorem Zd9{v:List Fct}(hv:VwOk v){d:Int}{p:Ky×Ky}{r:Fr}(h:QP d v p=some r):Qp p.1=true/\Qp p.2=true/\p.2≠p.1/\RbF 42 r/\r.rat≠0:=by
 unfold QP rtM at h
 cases h1:Jv d v p with
 |some r1=>
  rw[h1] at h;obtain rfl:=Option.some.inj h;obtain⟨a,b,c,e,g,_⟩:=Zh5 hv h1
  exact⟨a,b,c,e,g⟩
 |none=>
  rw[h1] at h
  dsimp only at h
  cases h2:Jv d v (sw p) with
  |none=>rw[h2] at h;cases h
  |some r1=>
   rw[h2] at h;obtain rfl:=Option.some.inj h;obtain⟨a,b,c,e,g,_⟩:=Zh5 hv h2
   obtain⟨i1,i2⟩:=Ziu e g
   refine⟨b,a,fun q=>c q.symm,i1,?_⟩;rw[i2,Rat.div_def,Rat.one_mul];intro q;exact g (by rw[<-Rat.inv_inv r1.rat,q,Rat.inv_zero])
theorem ZbS{v:List Fct}(hv:VwOk v){d:Int}(p:Ky×Ky)(h:(QP d v p).isSome=true):p.1.length<=3/\p.2.length<=3:=by
 obtain⟨r,hr⟩:=Option.isSome_iff_exists.1 h
 obtain⟨a,b,_⟩:=Zd9 hv hr
 exact⟨Nat.le_of_eq (YJ a),Nat.le_of_eq (YJ b)⟩
theorem Zea{d:Int}:∀{v:List Fct} {o:Ky×Ky->Option Fr} {p:Ky×Ky},((o p).isSome=true\/∃f∈v,isR d f=true/\p=(f.cur,f.other))->((v.foldl (Yf d) o) p).isSome=true
 |[],o,p,h=>by
  rcases h with h|⟨f,hf,_⟩
  ·exact h
  ·cases hf
 |f::v,o,p,h=>by
  rw[List.foldl_cons]
  apply Zea
  rcases h with h|⟨g,hg,h2,h3⟩
  ·left
   unfold Yf
   split
   ·show(if p=(f.cur,f.other) then some f.ratio else o p).isSome=true
    split
    ·rfl
    ·exact h
   ·exact h
  ·rcases List.mem_cons.1 hg with rfl|hg
   ·left
    unfold Yf;rw[if_pos h2]
    show(if p=(g.cur,g.other) then some g.ratio else o p).isSome=true
    rw[if_pos h3];rfl
   ·exact .inr ⟨g,hg,h2,h3⟩
theorem Zgv{d:Int}{v:List Fct}{p:Ky×Ky}:(Jv d v p).isSome=true↔∃f∈v,isR d f=true/\p=(f.cur,f.other):=by
 constructor
 ·intro h;obtain⟨r,hr⟩:=Option.isSome_iff_exists.1 h
  obtain⟨f,hf,h1,h2,_⟩:=ZbG hr
  exact⟨f,hf,h1,h2⟩
 ·intro h;exact Zea (.inr h)
theorem Zao{d:Int}{v:List Fct}{p:Ky×Ky}:(QP d v p).isSome=true↔∃f∈v,isR d f=true/\(p=(f.cur,f.other)\/p=(f.other,f.cur)):=by
 have h1:= @Zgv d v p;have h2:= @Zgv d v (sw p)
 have e:(QP d v p).isSome=((Jv d v p).isSome||(Jv d v (sw p)).isSome):=by
  unfold QP rtM
  cases Jv d v p<;>simp
 rw[e,Bool.or_eq_true,h1,h2]
 constructor
 ·rintro(⟨f,hf,h3,h4⟩|⟨f,hf,h3,h4⟩)
  ·exact⟨f,hf,h3,.inl h4⟩
  ·refine⟨f,hf,h3,.inr ?_⟩
   cases p
   simp only[sw,Prod.mk.injEq] at h4;rw[h4.1,h4.2]
 ·rintro⟨f,hf,h3,h4|h4⟩
  ·exact .inl ⟨f,hf,h3,h4⟩
  ·refine .inr ⟨f,hf,h3,?_⟩;rw[h4];rfl
def cdL(d:Int)(v:List Fct):List Ky:=Vp ((v.filter (isR d)).flatMap fun f=>[f.cur,f.other])
theorem ZbU{d:Int}{v:List Fct}{a:Ky}:a∈cdL d v↔∃f∈v,isR d f=true/\(a=f.cur\/a=f.other):=by
 unfold cdL;rw[Vz,List.mem_flatMap]
 constructor
 ·rintro⟨f,hf,h⟩;rw[List.mem_filter] at hf;exact⟨f,hf.1,hf.2,by simpa using h⟩
 ·rintro⟨f,hf,h1,h2⟩;exact⟨f,List.mem_filter.2 ⟨hf,h1⟩,by simpa using h2⟩
theorem XU(d:Int)(v:List Fct):CdM (QP d v) (cdL d v):=by
 refine⟨VA _,fun a=> ?_⟩;rw[ZbU]
 constructor
 ·rintro⟨f,hf,h1,rfl|rfl⟩
  ·exact⟨f.other,Zao.2 ⟨f,hf,h1,.inl rfl⟩⟩
  ·exact⟨f.cur,Zao.2 ⟨f,hf,h1,.inr rfl⟩⟩
 ·rintro⟨y,hy⟩;obtain⟨f,hf,h1,h2⟩:=Zao.1 hy
  rcases h2 with h2|h2
  ·exact⟨f,hf,h1,.inl (Prod.mk.inj h2).1⟩
  ·exact⟨f,hf,h1,.inr (Prod.mk.inj h2).1⟩
def QA(v:List Fct)(d:Int)(cs:List Ky):Int:=if Va v≠0 then 1 else if d< -25567\/84005<d then 13 else if cs.any (fun s=> !Qp s)=true then 12 else 0
theorem QB{v:List Fct}{d:Int}{cs:List Ky}(h:QA v d cs=0):VwOk v/\ -25567<=d/\d<=84005/\∀s∈cs,Qp s=true:=by
 unfold QA at h
 by_cases h0:Va v=0
 ·rw[if_neg (by simpa using h0)] at h
  by_cases h1:d< -25567\/84005<d
  ·rw[if_pos h1] at h;cases h
  ·rw[if_neg h1] at h
   by_cases h2:cs.any (fun s=> !Qp s)=true
   ·rw[if_pos h2] at h;cases h
   ·refine⟨(Ye v).1 h0,by omega,by omega,fun s hs=> ?_⟩
    cases hc:Qp s
    ·exact absurd (List.any_eq_true.2 ⟨s,hs,by rw[hc];rfl⟩) h2
    ·rfl
 ·rw[if_pos h0] at h;cases h
def Ys(d:Int)(v:List Fct)(a b:Ky):List Ky:=XK (QP d v) (cdL d v) a b
def paR(d:Int)(v:List Fct)(a b:Ky):List Ky×Int:=if QA v d [a,b]≠0 then([],QA v d [a,b]) else if Ys d v a b=[] then([],17) else(Ys d v a b,0)
def diR(d:Int)(v:List Fct)(a b:Ky):(Fr×Bool)×Int:=if QA v d [a,b]≠0 then((Fr.zero,false),QA v d [a,b]) else(if a=b then(Qd 1,true) else((QP d v (a,b)).getD Fr.zero,(QP d v (a,b)).isSome),0)
def raR(d:Int)(v:List Fct)(a b:Ky):Fr×Int:=if QA v d [a,b]≠0 then(Fr.zero,QA v d [a,b]) else if Ys d v a b=[] then(Fr.zero,17) else(ZbQ (QP d v) (Ys d v a b),0)
def ZdA(m:Ky×Ky->Option Fr)(l:List Ky)(a:List UInt8):List UInt8:=Qb (rnd (JH m l (l.length-1)*(val a:Rat)))
def coR(d:Int)(v:List Fct)(a x b:Ky):List UInt8×Int:=if QA v d [a,b]≠0 then([],QA v d [a,b]) else if x≠Qb (val x) then([],1) else if Ys d v a b=[] then([],17) else(ZdA (QP d v) (Ys d v a b) x,0)
theorem Zbd:∀l:List Ky,(Vp l).length<=l.length
 |[]=>Nat.le_refl _
 |s::l=>by
  have h:=Zbd l
  have:∀(s:Ky) (l:List Ky),(VW s l).length<=l.length+1:=by
   intro s l
   induction l with
   |nil=>simp[VW]
   |cons x l ih=>unfold VW;split;simp;split<;>simp;exact ih
  unfold Vp;have:=this s (Vp l)
  rw[List.length_cons];omega
theorem Zeb(d:Int)(v:List Fct):(cdL d v).length<=2*v.length:=by
 have h1:=Zbd ((v.filter (isR d)).flatMap fun f=>[f.cur,f.other])
 have h2:((v.filter (isR d)).flatMap fun f=>[f.cur,f.other]).length=2*(v.filter (isR d)).length:=by
  generalize v.filter (isR d)=l
  induction l with
  |nil=>rfl
  |cons x l ih=>rw[List.flatMap_cons,List.length_append,ih,List.length_cons];simp;omega
 have h3:=List.length_filter_le (isR d) v;unfold cdL;omega
theorem ZhO{R:Ky->Ky->Bool}{codes:List Ky}{tg:Ky}(n:Nat)(src:Ky):src=tg->bfs R codes tg (n+1) [[src]] [src]=some [src]:=by
 intro h;unfold bfs;rw[List.getLast?_singleton]
 dsimp only
 rw[if_pos h]
theorem ZhP(m:Ky×Ky->Option Fr)(codes:List Ky)(a:Ky):XK m codes a a=[a]:=by
 unfold XK;rw[ZhO _ _ rfl];rfl
end
section
open Go
section
variable {m:Ky×Ky->Option Fr} {codes:List Ky} {a b:Ky}
structure PaOk (m:Ky×Ky->Option Fr) (codes:List Ky) (a b:Ky) (p:List Ky):Prop where
 head:p[0]?=some a
 last:p.getLast?=some b
 edge:∀i x y,p[i]?=some x->p[i+1]?=some y->(m (x,y)).isSome=true/\y∈codes
 far:∀i k x y,i<k->p[i]?=some x->p[k]?=some y->x≠y/\((m (x,y)).isSome=true->k=i+1)
theorem ZbZ(hc:codes.Nodup)(h:XK m codes a b≠[]):PaOk m codes a b (XK m codes a b):=by
 cases hq:bfs (fun x y=>(m (x,y)).isSome) codes b (codes.length+1) [[a]] [a] with
 |none=>exact absurd (by unfold XK;rw[hq];rfl) h
 |some p=>
  have e:XK m codes a b=p:=by unfold XK;rw[hq];rfl
  rw[e];obtain⟨h1,h2,h3,h4⟩:=Zaa hc BI.start hq
  exact⟨h1,h2,h3,h4⟩
theorem PaOk.mem{p:List Ky}(h:PaOk m codes a b p){s:Ky}(hs:s∈p):s=a\/s∈codes:=by
 obtain⟨i,hi⟩:=List.getElem?_of_mem hs
 cases i with
 |zero=>rw[h.head] at hi;exact .inl (Option.some.inj hi).symm
 |succ i=>
  have h1:=(List.getElem?_eq_some_iff.1 hi).1;obtain⟨x,hx⟩:∃x,p[i]?=some x:=⟨_,List.getElem?_eq_getElem (by omega)⟩
  exact .inr (h.edge i x s hx hi).2
theorem PaOk.tail{p:List Ky}(h:PaOk m codes a b p){s:Ky}(hs:s∈p.tail):s∈codes:=by
 obtain⟨i,hi⟩:=List.getElem?_of_mem hs
 rw[List.getElem?_tail] at hi;have h1:=(List.getElem?_eq_some_iff.1 hi).1;obtain⟨x,hx⟩:∃x,p[i]?=some x:=⟨_,List.getElem?_eq_getElem (by omega)⟩
 exact(h.edge i x s hx hi).2
theorem Zbg:∀{p:List Ky},(∀(i k:Nat) (x y:Ky),i<k->p[i]?=some x->p[k]?=some y->x≠y)->p.Nodup
 |[],_=>List.nodup_nil
 |q::p,h=>by
  rw[List.nodup_cons]
  constructor
  ·intro hq;obtain⟨i,hi⟩:=List.getElem?_of_mem hq
   exact h 0 (i+1) q q (by omega) rfl (by simpa using hi) rfl
  ·exact Zbg fun i k x y hik hx hy=>h (i+1) (k+1) x y (by omega) (by simpa using hx) (by simpa using hy)
theorem PaOk.nodup{p:List Ky}(h:PaOk m codes a b p):p.Nodup:=Zbg fun i k x y hik hx hy=>(h.far i k x y hik hx hy).1
theorem Zee:∀{l c:List Ky},l.Nodup->(∀s∈l,s∈c)->l.length<=c.length
 |[],_,_,_=>Nat.zero_le _
 |s::l,c,hn,h=>by
  rw[List.nodup_cons] at hn;have h1:=Zee (c:=c.erase s) hn.2 fun t ht=>(List.mem_erase_of_ne (fun e:t=s=>hn.1 (by rw[<-e];exact ht))).2 (h t (List.mem_cons_of_mem _ ht))
  have h2:=List.length_erase_of_mem (h s (List.mem_cons_self ..));have h3:=List.length_pos_of_mem (h s (List.mem_cons_self ..));rw[List.length_cons];omega
theorem Ziy(hc:codes.Nodup):(XK m codes a b).length<=codes.length+1:=by
 by_cases h:XK m codes a b=[]
 ·rw[h];simp
 ·have hp:=ZbZ hc h;have h1:=Zee (hp.nodup.sublist (List.tail_sublist _)) fun s hs=>hp.tail hs
  rw[List.length_tail] at h1;omega
theorem Ziz(hc:codes.Nodup){s:Ky}(hs:s∈XK m codes a b):s=a\/s∈codes:=
 (ZbZ hc (fun e=>by rw[e] at hs;cases hs)).mem hs
theorem ZgC{l:List Ky}(h:l.Pairwise (·< ·)):l.Nodup:=h.imp fun {a b} h e=>by subst e;exact List.lt_irrefl _ h
end
theorem Yi(d:Int)(v:List Fct):(cdL d v).Nodup:=ZgC (XU d v).1
theorem ZgD{v:List Fct}(hv:VwOk v){d:Int}{s:Ky}(h:s∈cdL d v):s.length=3:=by
 obtain⟨f,hf,h1,h2⟩:=ZbU.1 h
 obtain⟨c1,c2,_⟩:=ZbR hv hf h1
 rcases h2 with rfl|rfl
 ·exact YJ c1
 ·exact YJ c2
theorem Zef{v:List Fct}(hv:VwOk v){d:Int}{a b s:Ky}(h:s∈Ys d v a b):s=a\/s.length=3:=(Ziz (Yi d v) h).imp_right fun h=>ZgD hv h
theorem Zeg{v:List Fct}(d:Int)(a b:Ky):(Ys d v a b).length<=2*v.length+1:=by
 have h1:=Ziy (m:=QP d v) (a:=a) (b:=b) (Yi d v);have h2:=Zeb d v;unfold Ys;omega
end
section
open Go
def Zbh(key:List UInt8)(day:Int)(cur other:Ky)(r:Fr):Fct:=⟨key,0,false,day,16,[],other,cur,[],[],[],[],⟨[],[]⟩,r,⟨[],[]⟩,[],[],0⟩
def eur:Ky:=[69,85,82]
def usd:Ky:=[85,83,68]
def chf:Ky:=[67,72,70]
def aw2:List Fct:=[Zbh [97] 10 eur usd ⟨[49,49],[49,48]⟩,Zbh [98] 10 usd chf ⟨[57],[49,48]⟩]
theorem ZhT:paR 10 aw2 eur chf=([eur,usd,chf],0):=by decide+kernel
theorem ZhU:coR 12 aw2 eur [50,53,48] chf=([50,52,56],0):=by decide+kernel
end
end Go.Proofs.YtokjnjdbnabchaaGreatDoor
