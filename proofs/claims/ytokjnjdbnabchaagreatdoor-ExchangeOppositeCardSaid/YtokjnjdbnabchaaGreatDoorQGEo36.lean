/- Ex2, Ex3, Ex4, Ex5, Ex6. -/
import Derived.Test.YtokjnjdbnabchaaGreatDoorQGEo15
namespace Go.Proofs.YtokjnjdbnabchaaGreatDoor
section
open Go
def isR(d:Int)(f:Fct):Bool:=f.kind==16&&decide (f.day<=d)
def Vm(d:Int)(o:Ky×Ky->Option Fr)(f:Fct):Ky×Ky->Option Fr:=if isR d f=true then fun p=>if p=(f.cur,f.other) then some f.ratio else o p else o
def Vw(d:Int)(v:List Fct):Ky×Ky->Option Fr:=v.foldl (Vm d) fun _=>none
def sw(p:Ky×Ky):Ky×Ky:=(p.2,p.1)
def Zbo(r:Fr):Fr:=(Jg 1 r.rat).1
def rtM(m:Ky×Ky->Option Fr)(p:Ky×Ky):Option Fr:=match m p with
 |some r=>some r
 |none=>(m (sw p)).map Zbo
def XQ(d:Int)(v:List Fct)(p:Ky×Ky):Option Fr:=rtM (Vw d v) p
theorem Zfv{d:Int}{v:List Fct}{k:Nat}{f:Fct}(h:v[k]?=some f):Vw d (v.take (k+1))=Vm d (Vw d (v.take k)) f:=by
 unfold Vw;rw[Zej h,List.foldl_append];rfl
theorem Zfw{d:Int}:∀{v:List Fct} {o:Ky×Ky->Option Fr} {p:Ky×Ky} {r:Fr},v.foldl (Vm d) o p=some r->o p=some r\/∃f∈v,isR d f=true/\p=(f.cur,f.other)/\f.ratio=r
 |[],o,p,r,h=>.inl h
 |f::v,o,p,r,h=>by
  rw[List.foldl_cons] at h
  rcases Zfw h with h|⟨g,hg,h2⟩
  ·unfold Vm at h
   split at h
   ·rename_i hr
    dsimp only at h
    by_cases e:p=(f.cur,f.other)
    ·rw[if_pos e] at h;exact .inr ⟨f,List.mem_cons_self ..,hr,e,Option.some.inj h⟩
    ·rw[if_neg e] at h;exact .inl h
   ·exact .inl h
  ·exact .inr ⟨g,List.mem_cons_of_mem _ hg,h2⟩
theorem Zbp{d:Int}{v:List Fct}{p:Ky×Ky}{r:Fr}(h:Vw d v p=some r):∃f∈v,isR d f=true/\p=(f.cur,f.other)/\f.ratio=r:=(Zfw h).resolve_left fun h=>by cases h
def YO(m:Ky×Ky->Option Fr)(rem:Ky×Ky->Bool)(p:Ky×Ky):Option Fr:=match m p with
 |some r=>if rem p=true then none else some r
 |none=>match m (sw p) with
  |some r=>if rem (sw p)=true then none else some (Zbo r)
  |none=>none
theorem Zc4(m:Ky×Ky->Option Fr):YO m (fun x=>(m x).isSome)=fun _=>none:=by
 funext p
 unfold YO
 cases h:m p with
 |some r=>simp[h]
 |none=>
  dsimp only
  split
  ·rename_i r h2
   simp[h2]
  ·rfl
theorem Zek{m:Ky×Ky->Option Fr}{rem:Ky×Ky->Bool}(h:∀p r,m p=some r->rem p=false):YO m rem=rtM m:=by
 funext p
 unfold YO rtM
 cases h1:m p with
 |some r=>simp[h p r h1]
 |none=>
  simp only
  cases h2:m (sw p) with
  |some r=>simp[h _ r h2]
  |none=>rfl
theorem Zfx(p:Ky×Ky):sw (sw p)=p:=rfl
theorem Zel{m:Ky×Ky->Option Fr}{rem:Ky×Ky->Bool}{x:Ky×Ky}{r:Fr}(hx:m x=some r)(hb:(m (sw x)).isSome=true):
 YO m (fun y=>rem y&& !decide (y=x))=fun p=>if p=x then some r else YO m rem p:=by
 funext p
 unfold YO
 by_cases e:p=x
 ·subst e;rw[if_pos rfl,hx];simp
 ·rw[if_neg e]
  cases h1:m p with
  |some q=>simp[e]
  |none=>
   simp only
   have e2:sw p≠x:=fun e2=>by
    rw[<-e2,Zfx,h1] at hb
    cases hb
   simp[e2]
theorem Zfy{m:Ky×Ky->Option Fr}{rem:Ky×Ky->Bool}{x:Ky×Ky}{r:Fr}(hx:m x=some r)(hb:m (sw x)=none):
 YO m (fun y=>rem y&& !decide (y=x))=fun p=>if p=sw x then some (Zbo r) else if p=x then some r else YO m rem p:=by
 have hne:sw x≠x:=fun e=>by rw[e,hx] at hb;cases hb
 funext p
 unfold YO
 by_cases e0:p=sw x
 ·subst e0;rw[if_pos rfl,hb,Zfx,hx];simp
 ·rw[if_neg e0]
  by_cases e:p=x
  ·subst e;rw[if_pos rfl,hx];simp
  ·rw[if_neg e]
   cases h1:m p with
   |some q=>simp[e]
   |none=>
    simp only;have e2:sw p≠x:=fun e2=>e0 (by rw[<-e2,Zfx])
    simp[e2]
end
section
open Go
def edF(m:Ky×Ky->Option Fr)(l:List Ky)(j:Nat):Fr:=(m (l.getD j [],l.getD (j+1) [])).getD Fr.zero
def prK(m:Ky×Ky->Option Fr)(l:List Ky):Nat->Rat
 |0=>1
 |k+1=>prK m l k*(edF m l k).rat
def RbF(D:Nat)(f:Fr):Prop:=RB D f.rat/\f.Sz 1000
theorem ZdR{p q:Rat}{L M:Nat}(hp:RB L p)(hq:RB M q):RB (L+M) (p*q):=by
 have h:p*q=Rat.divInt (p.num*q.num) ((p.den:Int)*q.den):=by
  rw[<-Rat.divInt_mul_divInt,Rat.num_divInt_den,Rat.num_divInt_den]
 rw[h];have h1:=p.den_nz;have h2:=q.den_nz;refine RB.divInt (Qq hp.1 hq.1) (Qq (by simpa using hp.2) (by simpa using hq.2)) ?_;have:p.den*q.den≠0:=Nat.mul_ne_zero h1 h2
 exact_mod_cast this
theorem Zhz(D:Nat)(hD:1<=D):RbF D Fr.zero:=by
 refine⟨?_,by decide,by decide⟩;rw[ZbL];have:10^1<=10^D:=Nat.pow_le_pow_right (by omega) hD
 exact⟨by show 0<10^D;omega,by show 1<10^D;omega⟩
theorem Zdh{m:Ky×Ky->Option Fr}{l:List Ky}{D:Nat}(hD:1<=D)(hm:∀x r,m x=some r->RbF D r):∀k,RB (1+k*D) (prK m l k)
 |0=>⟨by show 1<10^_;simp,by show 1<10^_;simp⟩
 |k+1=>by
  have h1:=Zdh hD hm k (l:=l)
  have h2:RbF D (edF m l k):=by
   unfold edF
   cases h:m (l.getD k [],l.getD (k+1) []) with
   |none=>exact Zhz D hD
   |some r=>exact hm _ _ h
  have h3:=ZdR h1 h2.1;rw[Nat.succ_mul,<-Nat.add_assoc];exact h3
theorem XZ{q:Rat}{L M:Nat}(h:RB L q)(hL:L+1<=M):(Qd q).Sz M:=by
 unfold Qd;refine⟨Nat.le_trans (Qk h.1) hL,?_⟩
 dsimp only
 split
 ·simp
 ·exact Nat.le_trans (Qk (by simpa using h.2)) hL
def Zcs(m:Ky×Ky->Option Fr)(l:List Ky):Fr:=Qd (prK m l (l.length-1))
end
section
open Go
def XJ(m:Ky×Ky->Option Fr)(codes:List Ky)(src tg:Ky):List Ky:=(bfs (fun x y=>(m (x,y)).isSome) codes tg (codes.length+1) [[src]] [src]).getD []
def CdM(m:Ky×Ky->Option Fr)(codes:List Ky):Prop:=codes.Pairwise (·< ·)/\∀a,a∈codes↔∃y,(m (a,y)).isSome=true
theorem Zge{m:Ky×Ky->Option Fr}{a b:List Ky}(ha:CdM m a)(hb:CdM m b):a=b:=by
 rw[JN (a:=b) ha.1 fun k=>(ha.2 k).trans (hb.2 k).symm,<-JN (a:=b) hb.1 fun k=>Iff.rfl]
theorem Zgf{p q:Bool}{g:Fr}(h:QQ p q g=0):g.ok/\0<=g.rat/\(p=true->g.rat≠0)/\(q=true->g.rat<=1):=by
 unfold QQ at h
 split at h
 ·cases h
 rename_i h1
 split at h
 ·cases h
 split at h
 ·cases h
 rename_i h3
 exact⟨Classical.not_not.1 h1,Rat.not_lt.1 fun a=>h3 (.inl a),fun a b=>h3 (.inr (.inl ⟨a,b⟩)),fun a=>Rat.not_lt.1 fun b=>h3 (.inr (.inr ⟨a,b⟩))⟩
theorem VT(f:Fct)(r:KRow):∀(n i:Nat),Yo f r i n=0->∀j,i<=j->j<i+n->r.has j=true->XS f r j=0:=by
 intro n
 induction n with
 |zero=>intro i _ j h1 h2;omega
 |succ n ih=>
  intro i h j h1 h2 h3;unfold Yo at h
  by_cases e:i=j
  ·subst e;rw[if_pos h3] at h
   split at h
   ·rename_i h0;exact absurd h h0
   ·rename_i h0;exact Classical.not_not.1 h0
  ·split at h
   ·split at h
    ·rename_i h0;exact absurd h h0
    ·exact ih (i+1) h j (by omega) (by omega) h3
   ·split at h
    ·cases h
    ·exact ih (i+1) h j (by omega) (by omega) h3
theorem Zgg{f:Fct}(h:QK f=0)(hc:f.cancelled=false)(hk:f.kind=16):Qp f.cur=true/\Qp f.other=true/\f.other≠f.cur/\QQ true false f.ratio=0:=by
 unfold QK at h
 split at h
 ·cases h
 split at h
 ·cases h
 rw[if_neg (by rw[hc];simp)] at h
 split at h
 ·cases h
 rw[hk] at h;have h':Yo f ⟨4,[(8,true,false)],[1,2],true⟩ 0 13=0:=h;have h1:=VT f _ 13 0 h' 1 (by decide) (by decide) (by decide);have h2:=VT f _ 13 0 h' 2 (by decide) (by decide) (by decide);have h8:=VT f _ 13 0 h' 8 (by decide) (by decide) (by decide);simp only[XS,if_true] at h1 h2
 have e2:Qp f.cur=true:=by
  by_cases e:Qp f.cur=false
  ·rw[if_pos e] at h2;cases h2
  ·simpa using e
 by_cases e:Qp f.other=false
 ·rw[if_pos e] at h1;cases h1
 rw[if_neg e] at h1
 by_cases e3:f.other=f.cur
 ·rw[if_pos e3] at h1;cases h1
 exact⟨e2,by simpa using e,e3,h8⟩
theorem Vt{s:List UInt8}(h:Qp s=true):s.length=3:=by
 unfold Qp at h;rw[Bool.and_eq_true] at h;simpa using h.1
theorem ZdS(a:List UInt8):a.length<=JA a+1:=by unfold JA;split<;>omega
theorem ZhA{g:Fr}{p q:Bool}(h:QQ p q g=0):g.Sz 41:=by
 unfold QQ at h
 split at h
 ·cases h
 split at h
 ·cases h
 rename_i h2
 have h3:=ZdS g.n;have h4:=ZdS g.d;exact⟨by omega,by omega⟩
theorem Zim{q:Rat}{L:Nat}(h:RB L q)(h0:q≠0):RB L (1/q):=by
 rw[Rat.div_def,Rat.one_mul,Rat.inv_def];exact RB.divInt (by simpa using h.2) h.1 (fun e=>h0 (Rat.num_eq_zero.1 e))
theorem ZdT{v:List Fct}(hv:VwOk v){f:Fct}(hf:f∈v){d:Int}(hr:isR d f=true):Qp f.cur=true/\Qp f.other=true/\f.other≠f.cur/\QQ true false f.ratio=0:=by
 unfold isR at hr;rw[Bool.and_eq_true] at hr;exact Zgg (hv.chk f hf).1 (hv.chk f hf).2.1 (by simpa using hr.1)
theorem ZhV{v:List Fct}(hv:VwOk v){d:Int}{p:Ky×Ky}{r:Fr}(h:Vw d v p=some r):Qp p.1=true/\Qp p.2=true/\p.2≠p.1/\RbF 42 r/\r.rat≠0/\0<=r.rat:=by
 obtain⟨f,hf,hr,rfl,rfl⟩:=Zbp h
 obtain⟨h1,h2,h3,h4⟩:=ZdT hv hf hr
 have h5:=Zgf h4;have h6:=ZhA h4;exact⟨h1,h2,h3,⟨(ZhM h6 (by decide)).more (by decide),by have:=h6.1;omega,by have:=h6.2;omega⟩,h5.2.2.1 rfl,h5.2.1⟩
theorem Zdi{r:Fr}(h:RbF 42 r)(h0:r.rat≠0):RbF 42 (Zbo r)/\(Zbo r).rat=1/r.rat:=by
 have h1:=Zim h.1 h0;have e:Zbo r=Qd (1/r.rat):=by unfold Zbo Jg;rw[if_neg h0]
 rw[e];exact⟨⟨by rw[QR];exact h1,XZ h1 (by decide)⟩,QR _⟩
theorem Zct{v:List Fct}(hv:VwOk v){d:Int}{p:Ky×Ky}{r:Fr}(h:XQ d v p=some r):Qp p.1=true/\Qp p.2=true/\p.2≠p.1/\RbF 42 r/\r.rat≠0:=by
 unfold XQ rtM at h
 cases h1:Vw d v p with
 |some r1=>
  rw[h1] at h;obtain rfl:=Option.some.inj h;obtain⟨a,b,c,e,g,_⟩:=ZhV hv h1
  exact⟨a,b,c,e,g⟩
 |none=>
  rw[h1] at h
  dsimp only at h
  cases h2:Vw d v (sw p) with
  |none=>rw[h2] at h;cases h
  |some r1=>
   rw[h2] at h;obtain rfl:=Option.some.inj h;obtain⟨a,b,c,e,g,_⟩:=ZhV hv h2
   obtain⟨i1,i2⟩:=Zdi e g
   refine⟨b,a,fun q=>c q.symm,i1,?_⟩;rw[i2,Rat.div_def,Rat.one_mul];intro q;exact g (by rw[<-Rat.inv_inv r1.rat,q,Rat.inv_zero])
theorem Zdj{v:List Fct}(hv:VwOk v){d:Int}(p:Ky×Ky)(h:(XQ d v p).isSome=true):p.1.length<=3/\p.2.length<=3:=by
 obtain⟨r,hr⟩:=Option.isSome_iff_exists.1 h
 obtain⟨a,b,_⟩:=Zct hv hr
 exact⟨Nat.le_of_eq (Vt a),Nat.le_of_eq (Vt b)⟩
theorem ZdU{d:Int}:∀{v:List Fct} {o:Ky×Ky->Option Fr} {p:Ky×Ky},((o p).isSome=true\/∃f∈v,isR d f=true/\p=(f.cur,f.other))->((v.foldl (Vm d) o) p).isSome=true
 |[],o,p,h=>by
  rcases h with h|⟨f,hf,_⟩
  ·exact h
  ·cases hf
 |f::v,o,p,h=>by
  rw[List.foldl_cons]
  apply ZdU
  rcases h with h|⟨g,hg,h2,h3⟩
  ·left
   unfold Vm
   split
   ·show(if p=(f.cur,f.other) then some f.ratio else o p).isSome=true
    split
    ·rfl
    ·exact h
   ·exact h
  ·rcases List.mem_cons.1 hg with rfl|hg
   ·left
    unfold Vm;rw[if_pos h2]
    show(if p=(g.cur,g.other) then some g.ratio else o p).isSome=true
    rw[if_pos h3];rfl
   ·exact .inr ⟨g,hg,h2,h3⟩
theorem Zdk{d:Int}{v:List Fct}{p:Ky×Ky}:(Vw d v p).isSome=true↔∃f∈v,isR d f=true/\p=(f.cur,f.other):=by
 constructor
 ·intro h;obtain⟨r,hr⟩:=Option.isSome_iff_exists.1 h
  obtain⟨f,hf,h1,h2,_⟩:=Zbp hr
  exact⟨f,hf,h1,h2⟩
 ·intro h;exact ZdU (.inr h)
theorem JX{d:Int}{v:List Fct}{p:Ky×Ky}:(XQ d v p).isSome=true↔∃f∈v,isR d f=true/\(p=(f.cur,f.other)\/p=(f.other,f.cur)):=by
 have h1:= @Zdk d v p;have h2:= @Zdk d v (sw p)
 have e:(XQ d v p).isSome=((Vw d v p).isSome||(Vw d v (sw p)).isSome):=by
  unfold XQ rtM
  cases Vw d v p<;>simp
 rw[e,Bool.or_eq_true,h1,h2]
 constructor
 ·rintro(⟨f,hf,h3,h4⟩|⟨f,hf,h3,h4⟩)
  ·exact⟨f,hf,h3,.inl h4⟩
  ·refine⟨f,hf,h3,.inr ?_⟩
   cases p
   simp only[sw,Prod.mk.injEq] at h4;rw[h4.1,h4.2]
 ·rintro⟨f,hf,h3,h4|h4⟩
  ·exact .inl ⟨f,hf,h3,h4⟩
  ·refine .inr ⟨f,hf,h3,?_⟩;rw[h4];rfl
def cdL(d:Int)(v:List Fct):List Ky:=Vd ((v.filter (isR d)).flatMap fun f=>[f.cur,f.other])
theorem ZdV{d:Int}{v:List Fct}{a:Ky}:a∈cdL d v↔∃f∈v,isR d f=true/\(a=f.cur\/a=f.other):=by
 unfold cdL;rw[Vn,List.mem_flatMap]
 constructor
 ·rintro⟨f,hf,h⟩;rw[List.mem_filter] at hf;exact⟨f,hf.1,hf.2,by simpa using h⟩
 ·rintro⟨f,hf,h1,h2⟩;exact⟨f,List.mem_filter.2 ⟨hf,h1⟩,by simpa using h2⟩
theorem Ju(d:Int)(v:List Fct):CdM (XQ d v) (cdL d v):=by
 refine⟨Vo _,fun a=> ?_⟩;rw[ZdV]
 constructor
 ·rintro⟨f,hf,h1,rfl|rfl⟩
  ·exact⟨f.other,JX.2 ⟨f,hf,h1,.inl rfl⟩⟩
  ·exact⟨f.cur,JX.2 ⟨f,hf,h1,.inr rfl⟩⟩
 ·rintro⟨y,hy⟩;obtain⟨f,hf,h1,h2⟩:=JX.1 hy
  rcases h2 with h2|h2
  ·exact⟨f,hf,h1,.inl (Prod.mk.inj h2).1⟩
  ·exact⟨f,hf,h1,.inr (Prod.mk.inj h2).1⟩
def QA(v:List Fct)(d:Int)(cs:List Ky):Int:=if Zbm v≠0 then 1 else if d< -25567\/84005<d then 13 else if cs.any (fun s=> !Qp s)=true then 12 else 0
theorem QB{v:List Fct}{d:Int}{cs:List Ky}(h:QA v d cs=0):VwOk v/\ -25567<=d/\d<=84005/\∀s∈cs,Qp s=true:=by
 unfold QA at h
 by_cases h0:Zbm v=0
 ·rw[if_neg (by simpa using h0)] at h
  by_cases h1:d< -25567\/84005<d
  ·rw[if_pos h1] at h;cases h
  ·rw[if_neg h1] at h
   by_cases h2:cs.any (fun s=> !Qp s)=true
   ·rw[if_pos h2] at h;cases h
   ·refine⟨(ZaM v).1 h0,by omega,by omega,fun s hs=> ?_⟩
    cases hc:Qp s
    ·exact absurd (List.any_eq_true.2 ⟨s,hs,by rw[hc];rfl⟩) h2
    ·rfl
 ·rw[if_pos h0] at h;cases h
def Vu(d:Int)(v:List Fct)(a b:Ky):List Ky:=XJ (XQ d v) (cdL d v) a b
def paR(d:Int)(v:List Fct)(a b:Ky):List Ky×Int:=if QA v d [a,b]≠0 then([],QA v d [a,b]) else if Vu d v a b=[] then([],17) else(Vu d v a b,0)
def JY(d:Int)(v:List Fct)(a b:Ky):(Fr×Bool)×Int:=if QA v d [a,b]≠0 then((Fr.zero,false),QA v d [a,b]) else(if a=b then(Qd 1,true) else((XQ d v (a,b)).getD Fr.zero,(XQ d v (a,b)).isSome),0)
def raR(d:Int)(v:List Fct)(a b:Ky):Fr×Int:=if QA v d [a,b]≠0 then(Fr.zero,QA v d [a,b]) else if Vu d v a b=[] then(Fr.zero,17) else(Zcs (XQ d v) (Vu d v a b),0)
def Zdl(m:Ky×Ky->Option Fr)(l:List Ky)(a:List UInt8):List UInt8:=Qb (rnd (prK m l (l.length-1)*(val a:Rat)))
def coR(d:Int)(v:List Fct)(a x b:Ky):List UInt8×Int:=if QA v d [a,b]≠0 then([],QA v d [a,b]) else if x≠Qb (val x) then([],1) else if Vu d v a b=[] then([],17) else(Zdl (XQ d v) (Vu d v a b) x,0)
theorem ZaX:∀l:List Ky,(Vd l).length<=l.length
 |[]=>Nat.le_refl _
 |s::l=>by
  have h:=ZaX l
  have:∀(s:Ky) (l:List Ky),(VN s l).length<=l.length+1:=by
   intro s l
   induction l with
   |nil=>simp[VN]
   |cons x l ih=>unfold VN;split;simp;split<;>simp;exact ih
  unfold Vd;have:=this s (Vd l)
  rw[List.length_cons];omega
theorem ZhB(d:Int)(v:List Fct):(cdL d v).length<=2*v.length:=by
 have h1:=ZaX ((v.filter (isR d)).flatMap fun f=>[f.cur,f.other])
 have h2:((v.filter (isR d)).flatMap fun f=>[f.cur,f.other]).length=2*(v.filter (isR d)).length:=by
  generalize v.filter (isR d)=l
  induction l with
  |nil=>rfl
  |cons x l ih=>rw[List.flatMap_cons,List.length_append,ih,List.length_cons];simp;omega
 have h3:=List.length_filter_le (isR d) v;unfold cdL;omega
theorem ZhC{R:Ky->Ky->Bool}{codes:List Ky}{tg:Ky}(n:Nat)(src:Ky):src=tg->bfs R codes tg (n+1) [[src]] [src]=some [src]:=by
 intro h;unfold bfs;rw[List.getLast?_singleton]
 dsimp only
 rw[if_pos h]
theorem ZhD(m:Ky×Ky->Option Fr)(codes:List Ky)(a:Ky):XJ m codes a a=[a]:=by
 unfold XJ;rw[ZhC _ _ rfl];rfl
end
section
open Go
section
variable {m:Ky×Ky->Option Fr} {codes:List Ky} {a b:Ky}
structure PaOk (m:Ky×Ky->Option Fr) (codes:List Ky) (a b:Ky) (p:List Ky):Prop where
 head:p[0]?=some a
 last:p.getLast?=some b
 edge:∀i x y,p[i]?=some x->p[i+1]?=some y->(m (x,y)).isSome=true/\y∈codes
 far:∀i k x y,i<k->p[i]?=some x->p[k]?=some y->x≠y/\((m (x,y)).isSome=true->k=i+1)
theorem ZdY(hc:codes.Nodup)(h:XJ m codes a b≠[]):PaOk m codes a b (XJ m codes a b):=by
 cases hq:bfs (fun x y=>(m (x,y)).isSome) codes b (codes.length+1) [[a]] [a] with
 |none=>exact absurd (by unfold XJ;rw[hq];rfl) h
 |some p=>
  have e:XJ m codes a b=p:=by unfold XJ;rw[hq];rfl
  rw[e];obtain⟨h1,h2,h3,h4⟩:=Zb3 hc BI.start hq
  exact⟨h1,h2,h3,h4⟩
theorem PaOk.mem{p:List Ky}(h:PaOk m codes a b p){s:Ky}(hs:s∈p):s=a\/s∈codes:=by
 obtain⟨i,hi⟩:=List.getElem?_of_mem hs
 cases i with
 |zero=>rw[h.head] at hi;exact .inl (Option.some.inj hi).symm
 |succ i=>
  have h1:=(List.getElem?_eq_some_iff.1 hi).1;obtain⟨x,hx⟩:∃x,p[i]?=some x:=⟨_,List.getElem?_eq_getElem (by omega)⟩
  exact .inr (h.edge i x s hx hi).2
theorem PaOk.tail{p:List Ky}(h:PaOk m codes a b p){s:Ky}(hs:s∈p.tail):s∈codes:=by
 obtain⟨i,hi⟩:=List.getElem?_of_mem hs
 rw[List.getElem?_tail] at hi;have h1:=(List.getElem?_eq_some_iff.1 hi).1;obtain⟨x,hx⟩:∃x,p[i]?=some x:=⟨_,List.getElem?_eq_getElem (by omega)⟩
 exact(h.edge i x s hx hi).2
theorem Za0:∀{p:List Ky},(∀(i k:Nat) (x y:Ky),i<k->p[i]?=some x->p[k]?=some y->x≠y)->p.Nodup
 |[],_=>List.nodup_nil
 |q::p,h=>by
  rw[List.nodup_cons]
  constructor
  ·intro hq;obtain⟨i,hi⟩:=List.getElem?_of_mem hq
   exact h 0 (i+1) q q (by omega) rfl (by simpa using hi) rfl
  ·exact Za0 fun i k x y hik hx hy=>h (i+1) (k+1) x y (by omega) (by simpa using hx) (by simpa using hy)
theorem PaOk.nodup{p:List Ky}(h:PaOk m codes a b p):p.Nodup:=Za0 fun i k x y hik hx hy=>(h.far i k x y hik hx hy).1
theorem ZdZ:∀{l c:List Ky},l.Nodup->(∀s∈l,s∈c)->l.length<=c.length
 |[],_,_,_=>Nat.zero_le _
 |s::l,c,hn,h=>by
  rw[List.nodup_cons] at hn;have h1:=ZdZ (c:=c.erase s) hn.2 fun t ht=>(List.mem_erase_of_ne (fun e:t=s=>hn.1 (by rw[<-e];exact ht))).2 (h t (List.mem_cons_of_mem _ ht))
  have h2:=List.length_erase_of_mem (h s (List.mem_cons_self ..));have h3:=List.length_pos_of_mem (h s (List.mem_cons_self ..));rw[List.length_cons];omega
theorem Ziq(hc:codes.Nodup):(XJ m codes a b).length<=codes.length+1:=by
 by_cases h:XJ m codes a b=[]
 ·rw[h];simp
 ·have hp:=ZdY hc h;have h1:=ZdZ (hp.nodup.sublist (List.tail_sublist _)) fun s hs=>hp.tail hs
  rw[List.length_tail] at h1;omega
theorem Zir(hc:codes.Nodup){s:Ky}(hs:s∈XJ m codes a b):s=a\/s∈codes:=
 (ZdY hc (fun e=>by rw[e] at hs;cases hs)).mem hs
theorem Zgo{l:List Ky}(h:l.Pairwise (·< ·)):l.Nodup:=h.imp fun {a b} h e=>by subst e;exact List.lt_irrefl _ h
end
theorem Za1(d:Int)(v:List Fct):(cdL d v).Nodup:=Zgo (Ju d v).1
theorem Zgp{v:List Fct}(hv:VwOk v){d:Int}{s:Ky}(h:s∈cdL d v):s.length=3:=by
 obtain⟨f,hf,h1,h2⟩:=ZdV.1 h
 obtain⟨c1,c2,_⟩:=ZdT hv hf h1
 rcases h2 with rfl|rfl
 ·exact Vt c1
 ·exact Vt c2
theorem Zd0{v:List Fct}(hv:VwOk v){d:Int}{a b s:Ky}(h:s∈Vu d v a b):s=a\/s.length=3:=(Zir (Za1 d v) h).imp_right fun h=>Zgp hv h
theorem ZhG{v:List Fct}(d:Int)(a b:Ky):(Vu d v a b).length<=2*v.length+1:=by
 have h1:=Ziq (m:=XQ d v) (a:=a) (b:=b) (Za1 d v);have h2:=ZhB d v;unfold Vu;omega
end
section
open Go
def Za2(key:List UInt8)(day:Int)(cur other:Ky)(r:Fr):Fct:=⟨key,0,false,day,16,[],other,cur,[],[],[],[],⟨[],[]⟩,r,⟨[],[]⟩,[],[],0⟩
def eur:Ky:=[69,85,82]
def usd:Ky:=[85,83,68]
def chf:Ky:=[67,72,70]
def aw2:List Fct:=[Za2 [97] 10 eur usd ⟨[49,49],[49,48]⟩,Za2 [98] 10 usd chf ⟨[57],[49,48]⟩]
theorem ZhI:paR 10 aw2 eur chf=([eur,usd,chf],0):=by decide+kernel
theorem ZhJ:coR 12 aw2 eur [50,53,48] chf=([50,52,56],0):=by decide+kernel
end
end Go.Proofs.YtokjnjdbnabchaaGreatDoor
