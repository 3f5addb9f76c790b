/- Lp1, Lp2, Lp3, Lt0, Fk0, Fk1, Kc, FkI, Lp4, Lp5, Lp6, Lp7, Lp8, Lp9, Lz. -/
import Derived.Test.YtkddgeclncafoaaGreatDoorQGEn41
import Derived.Test.YtkddgeclncafoaaGreatDoorQGEn36
import Derived.Lib.AtoiAllCases
import Derived.Lib.IndexLaws
set_option maxRecDepth 20000
set_option maxHeartbeats 1000000
namespace Go.Proofs.YtkddgeclncafoaaGreatDoor
open Go.Lib renaming hid→jq
section
open Go.RowKit Go.Shelf
structure Mp where
 cause:List UInt8
 day:Int
 inst:List UInt8
 other:List UInt8
 ratio:Fr
 share:Fr
 price:Fr
 keep:Bool
deriving DecidableEq
def mpC(m:Mp):Int:=
 if !(Qp m.cause&&Qp m.inst&&Qp m.other) then 23 else if !VL m.day then 13 else if ¬(m.ratio.ok/\m.share.ok/\m.price.ok) then 1
 else if m.ratio.rat<=0\/m.share.rat<0\/1<m.share.rat\/m.price.rat<0 then 2 else if m.keep=true/\m.other=m.inst then 18 else if m.keep=false/\m.share.rat≠1 then 9 else 0
structure Mp.Ok (m:Mp):Prop where
 cause:Qp m.cause=true
 inst:Qp m.inst=true
 other:Qp m.other=true
 day:VL m.day=true
 ratio:m.ratio.ok
 share:m.share.ok
 price:m.price.ok
 r0:0<m.ratio.rat
 s0:0<=m.share.rat
 s1:m.share.rat<=1
 p0:0<=m.price.rat
 keep:m.keep=true->m.other≠m.inst
 all:m.keep=false->m.share.rat=1
theorem ZgO(m:Mp):mpC m=0↔m.Ok:=by
 unfold mpC
 constructor
 ·intro h
  split at h
  ·cases h
  rename_i h1
  split at h
  ·cases h
  rename_i h2
  split at h
  ·cases h
  rename_i h3
  split at h
  ·cases h
  rename_i h4
  split at h
  ·cases h
  rename_i h5
  split at h
  ·cases h
  rename_i h6
  simp only[Bool.not_eq_true',Bool.not_eq_false,Bool.and_eq_true] at h1 h2;have h3:=Classical.not_not.1 h3;simp only[not_or,Rat.not_le,Rat.not_lt] at h4;exact⟨h1.1.1,h1.1.2,h1.2,h2,h3.1,h3.2.1,h3.2.2,h4.1,h4.2.1,h4.2.2.1,h4.2.2.2,fun a b=>h5 ⟨a,b⟩,fun a=>Classical.not_not.1 (fun b=>h6 ⟨a,b⟩)⟩
 ·intro h;rw[if_neg (by simp[h.cause,h.inst,h.other]),if_neg (by simp[h.day]),if_neg (by simp[h.ratio,h.share,h.price]),if_neg,if_neg,if_neg]
  ·exact fun a=>a.2 (h.all a.1)
  ·exact fun a=>h.keep a.1 a.2
  ·simp only[not_or,Rat.not_le,Rat.not_lt];exact⟨h.r0,h.s0,h.s1,h.p0⟩
def YK(t:Int)(ws:List Int):List Int:=if ws.sum=0 then ws.map (fun _=>0) else Xs t ws
theorem JH(t:Int)(ws:List Int):(YK t ws).length=ws.length:=by
 unfold YK
 split
 ·simp
 ·exact XX t ws
theorem Zcu{t w S:Int}(hS:0<S)(hw:0<=w)(ht:t<=S):(t*w).fdiv S<=w/\(0<(t*w).fmod S->(t*w).fdiv S+1<=w):=by
 have h1:=Int.mul_fdiv_add_fmod (t*w) S;have h2:=Int.fmod_nonneg_of_pos (t*w) hS;have h3:t*w<=S*w:=Int.mul_le_mul_of_nonneg_right ht hw;generalize (t*w).fdiv S=d at*;generalize (t*w).fmod S=r at*
 constructor
 ·have:S*d<=S*w:=by omega
  exact Int.le_of_mul_le_mul_left this hS
 ·intro hr;have:S*d<S*w:=by omega
  have:=Int.lt_of_mul_lt_mul_left this (Int.le_of_lt hS)
  omega
theorem JI{t:Int}{ws:List Int}(ht:0<=t)(hw:∀w∈ws,0<=w)(hS:0<ws.sum){i:Nat}{x w:Int}(hi:(Xs t ws)[i]?=some x)(hwi:ws[i]?=some w):
 0<=x/\(t<=ws.sum->x<=w):=by
 obtain⟨hlt,e⟩:=List.getElem?_eq_some_iff.1 hwi
 have hw0:0<=w:=hw w (List.mem_of_getElem? hwi);rw[Zfs t ws i hlt,e] at hi;have h0:0<=(t*w).fdiv ws.sum:=Int.fdiv_nonneg (Int.mul_nonneg ht hw0) (Int.le_of_lt hS);injection hi with hi
 by_cases hu:i∈upL t ws
 ·rw[if_pos hu] at hi;refine⟨by omega,fun hts=> ?_⟩;have hr:=ZnQ t hS hu
  have hr2:(QG t ws).getD i 0=(t*w).fmod ws.sum:=by
   unfold QG;rw[List.getD_eq_getElem?_getD,List.getElem?_map,hwi];rfl
  rw[hr2] at hr;have:=(Zcu hS hw0 hts).2 hr
  omega
 ·rw[if_neg hu] at hi;exact⟨by omega,fun hts=>by have:=(Zcu hS hw0 hts).1;omega⟩
theorem Zes{l:List Int}(h:∀x∈l,0<=x)(hs:l.sum=0):∀x∈l,x=0:=by
 intro x hx;have h1:=h x hx;have h2:=Zcb h hx;omega
theorem Zfv{t:Int}{ws:List Int}(ht:0<=t)(hw:∀w∈ws,0<=w){i:Nat}{x w:Int}(hi:(YK t ws)[i]?=some x)(hwi:ws[i]?=some w):
 0<=x/\(t<=ws.sum->x<=w):=by
 unfold YK at hi
 split at hi
 ·rename_i h0
  rw[List.getElem?_map,hwi] at hi;have hi:(0:Int)=x:=Option.some.inj hi;have:=hw w (List.mem_of_getElem? hwi)
  exact⟨by omega,fun _=>by omega⟩
 ·rename_i h0
  have hs:=QI hw;exact JI ht hw (by omega) hi hwi
theorem Za2{t:Int}{ws:List Int}(hw:∀w∈ws,0<=w)(h:0<ws.sum\/t=0):(YK t ws).sum=t:=by
 unfold YK
 split
 ·rename_i h0
  rcases h with h|h
  ·omega
  ·subst h;generalize ws=l
   induction l with
   |nil=>rfl
   |cons a l ih=>simpa using ih
 ·rename_i h0
  have hs:=QI hw;exact Zft t (by omega)
theorem Zfw{t:Int}{ws:List Int}(ht:0<=t)(hw:∀w∈ws,0<=w):∀x∈YK t ws,0<=x:=by
 intro x hx;obtain⟨i,hi⟩:=List.getElem?_of_mem hx
 have hlt:=(List.getElem?_eq_some_iff.1 hi).1;rw[JH] at hlt;exact(Zfv ht hw hi (List.getElem?_eq_getElem hlt)).1
def Zmn(t p a:Int):Int:=rnd (Rat.divInt (t*p) a)
structure Plan where
 exact:Rat
 parts:Int
 part:Rat
 moved:Int
 taken:Int
 cash:Int
 n:List Int
 m:List Int
 f:List Int
 p:List Int
def Xv(old:List Lot)(m:Mp):Plan:=
 let qs:=old.map fun x=>val x.q
 let cs:=old.map fun x=>val x.c
 let ex:Rat:=((qs.sum:Int):Rat)*m.ratio.rat
 let moved:=rnd (m.share.rat*((cs.sum:Int):Rat))
 let part:=ex-((QW ex:Int):Rat)
 let taken:=if part=0 then 0 else if QW ex=0 then moved else Zmn moved (VE ex) ex.num
 let cash:=rnd (part*m.price.rat)
 {exact:=ex,parts:=QW ex,part:=part,moved:=moved,taken:=taken,cash:=cash,n:=YK (QW ex) qs,m:=YK moved cs,f:=YK taken (YK moved cs),p:=YK cash qs}
theorem ZaH(q:Rat):q=Rat.divInt q.num q.den:=(Rat.num_divInt_den q).symm
theorem Zcc(q:Rat):q-((QW q:Int):Rat)=Rat.divInt (VE q) q.den:=by
 have hd:(q.den:Int)≠0:=by have:=q.den_nz;omega
 have h:=Zep q;rw[Int.mul_comm] at h;have e:((QW q:Int):Rat)=Rat.divInt (QW q) 1:=(XU (QW q)).symm;rw[e]
 conv=>lhs;lhs;rw[ZaH q]
 rw[Rat.divInt_sub_divInt _ _ hd (by omega)]
 congr 1
 ·omega
 ·omega
theorem Zfx(q:Rat):VE q=0↔q-((QW q:Int):Rat)=0:=by
 rw[Zcc];have hd:(q.den:Int)≠0:=by have:=q.den_nz;omega
 constructor
 ·intro h;rw[h,Rat.zero_divInt]
 ·intro h;have h2:Rat.divInt (VE q) q.den=Rat.divInt 0 1:=by rw[h];rfl
  rw[Rat.divInt_eq_divInt_iff hd (by omega)] at h2;omega
theorem ZaI{q:Rat}(h:0<=q):0<=QW q:=Int.fdiv_nonneg (Rat.num_nonneg.2 h) (by omega)
theorem ZbV(q:Rat):0<=q-((QW q:Int):Rat):=by
 rw[Zcc,<-Rat.num_nonneg,Rat.num_divInt];obtain⟨h1,h2⟩:=XT q
 have hd:(0:Int)<q.den:=by omega
 rw[Int.sign_eq_one_of_pos hd,Int.one_mul];exact Int.ediv_nonneg h1 (by omega)
theorem ZaJ(q:Rat):QW q<=rnd q/\(rnd q=QW q\/(rnd q=QW q+1/\VE q≠0)):=by
 unfold rnd
 split
 ·rename_i h
  have:=XT q
  exact⟨by omega,.inr ⟨rfl,by omega⟩⟩
 ·exact⟨by omega,.inl rfl⟩
theorem Vp{q:Rat}(h:0<=q):0<=rnd q:=by
 have:=ZaI h
 have:=(ZaJ q).1
 omega
theorem Zj1{n d k:Int}(hd:0<d)(h:n<=k*d):rnd (Rat.divInt n d)<=k:=by
 have hf:=Za1 n d (by omega);have h1:=Int.mul_fdiv_add_fmod n d;have h2:=Int.fmod_nonneg_of_pos n hd;obtain⟨h3,h4⟩:=ZaJ (Rat.divInt n d)
 have hle:n.fdiv d<=k:=by
  have:d*n.fdiv d<=d*k:=by rw[Int.mul_comm d k];omega
  exact Int.le_of_mul_le_mul_left this hd
 rcases h4 with h4|⟨h4,h5⟩
 ·omega
 ·rcases Int.lt_or_eq_of_le hle with h6|h6
  ·omega
  ·-- then n is k*d,and nothing remains
   exfalso
   have hn:n=k*d:=by
    rw[h6,Int.mul_comm d k] at h1;omega
   apply h5
   subst hn
   have e:Rat.divInt (k*d) d=((k:Int):Rat):=by
    rw[<-XU k,Rat.divInt_eq_divInt_iff (by omega) (by omega)];omega
   rw[e];unfold VE;simp
theorem ZhY(k:Int):rnd ((k:Int):Rat)=k:=by
 have h:VE ((k:Int):Rat)=0:=by unfold VE;simp
 have h2:QW ((k:Int):Rat)=k:=by unfold QW;simp
 unfold rnd;rw[h,h2,if_neg];simp
structure PlanOk (old:List Lot) (m:Mp) (x:Plan):Prop where
 ex:x.exact=((((old.map fun y=>val y.q).sum:Int)):Rat)*m.ratio.rat
 exact0:0<=x.exact
 parts0:0<=x.parts
 part0:0<=x.part
 moved0:0<=x.moved
 moved1:x.moved<=(old.map fun y=>val y.c).sum
 all:m.keep=false->x.moved=(old.map fun y=>val y.c).sum
 taken0:0<=x.taken
 taken1:x.taken<=x.moved
 whole:x.part=0->x.taken=0
 none:x.part≠0->x.parts=0->x.taken=x.moved
 cash0:0<=x.cash
 cash1:x.part=0->x.cash=0
theorem Jm{old:List Lot}(h:∀y∈old,y.Ok):(∀z∈old.map (fun y=>val y.q),0<=z)/\∀z∈old.map (fun y=>val y.c),0<=z:=by
 constructor
 ·intro z hz;obtain⟨y,hy,rfl⟩:=List.mem_map.1 hz
  have:=(h y hy).q0
  omega
 ·intro z hz;obtain⟨y,hy,rfl⟩:=List.mem_map.1 hz
  exact(h y hy).c0
theorem JJ{k:Int}(h:0<=k):(0:Rat)<=(k:Rat):=by exact_mod_cast h
theorem ZgP{s:Rat}{k:Int}(hs:s<=1)(hk:0<=k):rnd (s*(k:Rat))<=k:=by
 have hd:(0:Int)<s.den:=by have:=s.den_pos;omega
 have e:s*(k:Rat)=Rat.divInt (s.num*k) s.den:=by
  conv=>lhs;rw[ZaH s,<-XU k]
  rw[Rat.divInt_mul_divInt,Int.mul_one]
 rw[e];refine Zj1 hd ?_
 have hn:s.num<=s.den:=by
  have h1:s=Rat.divInt s.num s.den:=ZaH s;have h2:¬(1:Rat)<s:=Rat.not_lt.2 hs;have h3:(1:Rat)=Rat.divInt 1 1:=rfl;rw[h1,h3,Yq _ _ (by omega) hd] at h2;omega
 rw[Int.mul_comm k];exact Int.mul_le_mul_of_nonneg_right hn hk
theorem Zfy{old:List Lot}{m:Mp}(h:∀y∈old,y.Ok)(hm:m.Ok):PlanOk old m (Xv old m):=by
 obtain⟨hq,hc⟩:=Jm h
 have hqs:=QI hq;have hcs:=QI hc;have hex:(0:Rat)<=((((old.map fun y=>val y.q).sum:Int)):Rat)*m.ratio.rat:=Rat.mul_nonneg (JJ hqs) (Rat.le_of_lt hm.r0);have hmv:(0:Rat)<=m.share.rat*((((old.map fun y=>val y.c).sum:Int)):Rat):=Rat.mul_nonneg hm.s0 (JJ hcs);have hm0:=Vp hmv;have hpt:=ZbV (((((old.map fun y=>val y.q).sum:Int)):Rat)*m.ratio.rat)
 have hshr:∀mv:Int,0<=mv->∀ex:Rat,0<=ex->QW ex≠0->0<=Zmn mv (VE ex) ex.num/\Zmn mv (VE ex) ex.num<=mv:=by
  intro mv hmv ex hex hne;have h1:=Zep ex;obtain⟨h2,h3⟩:=XT ex
  have h4:=ZaI hex;have h5:(0:Int)<=ex.den*QW ex:=Int.mul_nonneg (by omega) h4;have h6:(0:Int)<ex.den*QW ex:=Int.mul_pos (by omega) (by omega);have hn:0<ex.num:=by omega
  have hle:VE ex<=ex.num:=by omega
  unfold Zmn
  constructor
  ·refine Vp ?_;rw[<-Rat.num_nonneg,Rat.num_divInt,Int.sign_eq_one_of_pos hn,Int.one_mul];exact Int.ediv_nonneg (Int.mul_nonneg hmv h2) (by omega)
  ·exact Zj1 hn (Int.mul_le_mul_of_nonneg_left hle hmv)
 refine⟨rfl,hex,ZaI hex,hpt,hm0,ZgP hm.s1 hcs,?_,?_,?_,?_,?_,Vp (Rat.mul_nonneg hpt hm.p0),?_⟩
 ·intro hk
  show rnd (m.share.rat*_)=_
  rw[hm.all hk,Rat.one_mul,ZhY]
 ·show 0<=ite _ _ _
  split
  ·omega
  ·split
   ·exact hm0
   ·rename_i h1 h2
    exact(hshr _ hm0 _ hex h2).1
 ·show ite _ _ _<=_
  split
  ·exact hm0
  ·split
   ·exact Int.le_refl _
   ·rename_i h1 h2
    exact(hshr _ hm0 _ hex h2).2
 ·intro hp;exact if_pos hp
 ·intro hp h0;exact(if_neg hp).trans (if_pos h0)
 ·intro hp
  show rnd (_*_)=0
  have hp':(Xv old m).part=0:=hp;rw[show((((old.map fun y=>val y.q).sum:Int)):Rat)*m.ratio.rat-((QW (((((old.map fun y=>val y.q).sum:Int)):Rat)*m.ratio.rat):Int):Rat)=0 from hp',Rat.zero_mul];exact ZhY 0
end
section
open Go.RowKit Go.Shelf
def Zor(n:List Int)(i:Nat):Nat:=(n.take i).countP (fun a=>decide (a≠0))
def Plan.mv(x:Plan)(i:Nat):Int:=x.m.getD i 0-x.f.getD i 0
def Plan.rest(x:Plan)(i:Nat):Int:=(((List.range i).filter fun k=>decide (x.n.getD k 0=0)).map x.mv).sum
def Zos(c:List UInt8)(k:Nat):List UInt8:=c++47::QS k
def Zo3(m:Mp)(x:Plan)(len i:Nat)(y:Lot):Lot:=
 {id:=Zos m.cause (Zor x.n i+1),inst:=m.other,acq:=y.acq,opn:=y.opn,q:=Qa (x.n.getD i 0),c:=Qa (x.mv i+if Zor x.n i=0 then x.rest len else 0),u:=Qa (x.n.getD i 0)}
def Zmo(m:Mp)(x:Plan)(old:List Lot)(i:Nat):List (Nat×Lot):=
 (List.range i).filterMap fun k=>match old[k]? with|some y=>if x.n.getD k 0=0 then none else some (k,Zo3 m x old.length k y)|none=>none
def ZnR(m:Mp)(x:Plan)(old:List Lot):List (Nat×Lot):=Zmo m x old old.length
def Zj2(m:Mp)(x:Plan)(old:List Lot):List Lot:=(ZnR m x old).map (·.2)
def Zcv(m:Mp)(ms:List Int):Nat->List Lot->List Lot
 |_,[]=>[]
 |k,y::l=>if y.inst=m.inst then(if m.keep=true then {y with c:=Qa (val y.c-ms.getD k 0)}::Zcv m ms (k+1) l else Zcv m ms (k+1) l) else y::Zcv m ms k l
structure Gain where
 cause:List UInt8
 lot:List UInt8
 inst:List UInt8
 acq:Int
 closed:Int
 q:List UInt8
 proceeds:List UInt8
 cost:List UInt8
 deferred:List UInt8
 replaced:List UInt8
deriving DecidableEq
structure Stp where
 cause:List UInt8
 src:List UInt8
 dst:List UInt8
 q:List UInt8
 made:List UInt8
 cost:List UInt8
deriving DecidableEq
def Zbu(m:Mp)(x:Plan)(old:List Lot)(i:Nat):List Gain:=
 (List.range i).filterMap fun k=>match old[k]? with
   |some y=>if x.p.getD k 0=0/\x.f.getD k 0=0 then none else some {cause:=m.cause,lot:=y.id,inst:=m.other,acq:=y.acq,closed:=m.day,q:=[],proceeds:=Qa (x.p.getD k 0),cost:=Qa (x.f.getD k 0),deferred:=[],replaced:=[]}
   |none=>none
def Zj3(m:Mp)(x:Plan)(old:List Lot):List Gain:=if x.part=0 then[] else Zbu m x old old.length
structure Res where
 lots:List Lot
 gains:List Gain
 steps:List Stp
def Res.none:Res:=⟨[],[],[]⟩
theorem Zj4(a:List UInt8):leS a a=true:=by unfold leS;simp
structure CutAt (i:List UInt8) (A B:List Lot):Prop where
 b:∀y∈B,leS y.inst i=false
 a:A=[]\/∃A' y,A=A'++[y]/\leS y.inst i=true
theorem CutAt.at_{i:List UInt8}{A B:List Lot}(h:CutAt i A B):ZhU (A++B) i=A.length:=by
 unfold ZhU
 have e:((A++B).reverse.takeWhile (fun y=> !leS y.inst i))=B.reverse:=by
  rw[List.reverse_append,List.takeWhile_append_of_pos (fun y hy=>by simp[h.b y (by simpa using hy)])]
  have e2:A.reverse.takeWhile (fun y=> !leS y.inst i)=[]:=by
   rcases h.a with rfl|⟨A',y,rfl,hy⟩
   ·rfl
   ·rw[List.reverse_append];simp[hy]
  rw[e2,List.append_nil]
 rw[e];simp
theorem CutAt.put{A B:List Lot}{x:Lot}(h:CutAt x.inst A B):Zoq (A++B) x=A++x::B:=by
 unfold Zoq;rw[h.at_,List.take_left,List.drop_left]
theorem CutAt.next{A B:List Lot}{x:Lot}(h:CutAt x.inst A B):CutAt x.inst (A++[x]) B:=⟨h.b,.inr ⟨A,x,rfl,Zj4 _⟩⟩
theorem LotsOk.put{l:List Lot}{x:Lot}(h:LotsOk l)(hx:x.Ok)(hid:x.id ∉ l.map (·.id))(hl:l.length<1000){A B:List Lot}(e:l=A++B):LotsOk (A++x::B):=by
 subst e;have hp:(A++x::B).Perm (x::(A++B)):=List.perm_middle;refine⟨?_,?_,?_⟩
 ·rw[hp.length_eq];simp at hl ⊢; omega
 ·intro y hy
  rcases List.mem_cons.1 (hp.mem_iff.1 hy) with rfl|hy
  ·exact hx
  ·exact h.ok y hy
 ·rw[(hp.map (·.id)).nodup_iff,List.map_cons,List.nodup_cons];exact⟨hid,h.ids⟩
end
section
open Go.RowKit Go.Shelf
theorem ZgQ(old:List Lot)(m:Mp):(Xv old m).n.length=old.length/\(Xv old m).m.length=old.length/\(Xv old m).f.length=old.length/\(Xv old m).p.length=old.length:=by
 unfold Xv;simp[JH]
theorem ZgR{old:List Lot}{m:Mp}(h:∀y∈old,y.Ok)(hm:m.Ok)(ho:old≠[]):
 (Xv old m).n.sum=(Xv old m).parts/\(Xv old m).m.sum=(Xv old m).moved/\(Xv old m).f.sum=(Xv old m).taken/\(Xv old m).p.sum=(Xv old m).cash/\0<(old.map fun y=>val y.q).sum:=by
 obtain⟨hq,hc⟩:=Jm h
 have hok:=Zfy h hm
 have hqs:0<(old.map fun y=>val y.q).sum:=by
  cases old with
  |nil=>exact absurd rfl ho
  |cons a l=>
   have h1:=(h a (by simp)).q0;have h2:=Zcb hq (x:=val a.q) (by simp);omega
 have hm1:=hok.moved1;have hm0:=hok.moved0;have hms:(Xv old m).m.sum=(Xv old m).moved:=Za2 hc (by show 0<_\/(Xv old m).moved=0;omega);refine⟨Za2 hq (.inl hqs),hms,?_,Za2 hq (.inl hqs),hqs⟩;have hmn:∀z∈(Xv old m).m,0<=z:=Zfw hok.moved0 hc;have ht0:=hok.taken0;have ht1:=hok.taken1;exact Za2 hmn (by show 0<(Xv old m).m.sum\/(Xv old m).taken=0;rw[hms];omega)
theorem ZiC(m:Mp)(ms:List Int)(k:Nat)(l:List Lot):((Zcv m ms k l).map (·.id)).Sublist (l.map (·.id)):=by
 induction l generalizing k with
 |nil=>simp[Zcv]
 |cons a l ih=>
  unfold Zcv
  split
  ·split
   ·simp only[List.map_cons];exact(ih (k+1)).cons_cons _
   ·exact(ih (k+1)).cons _
  ·exact(ih k).cons_cons _
theorem Zam{ls:List Lot}(h:LotsOk ls)(i:List UInt8):∀y∈Qf ls i,y.Ok:=fun y hy=>h.ok y (List.mem_filter.1 hy).1
structure MapOk (ls:List Lot) (m:Mp) (A B:List Lot):Prop where
 ok:LotsOk ls
 mp:m.Ok
 old:Qf ls m.inst≠[]
 free:∀z∈Zj2 m (Xv (Qf ls m.inst) m) (Qf ls m.inst),z.id ∉ ls.map (·.id)
 cut:Zcv m (Xv (Qf ls m.inst) m).m 0 ls=A++B
 at_:CutAt m.other A B
 len:(A++Zj2 m (Xv (Qf ls m.inst) m) (Qf ls m.inst)++B).length<=1000
end
section
open Go.RowKit Go.Shelf
theorem ZiD(l:List UInt8)(h:l.all Qr=true):∀acc:Nat,acc*10^l.length+Ql l<1000000000000000000->Lib.parseUint10 acc l=.ok (acc*10^l.length+Ql l):=by
 induction l with
 |nil=>intro acc _;simp[Lib.parseUint10,Ql]
 |cons b l ih=>
  intro acc hb;simp only[List.all_cons,Bool.and_eq_true] at h;have h1:=(QE b).1 h.1
  have e:Ql (b::l)=(b.toNat-48)*10^l.length+Ql l:=by
   have:=YH [b] l
   simpa[Ql] using this
  rw[e,List.length_cons,Nat.pow_succ] at hb ⊢;have hp:1<=10^l.length:=Nat.pow_pos (by omega)
  have e2:acc*(10^l.length*10)+((b.toNat-48)*10^l.length+Ql l)=(acc*10+(b.toNat-48))*10^l.length+Ql l:=by
   rw[Nat.add_mul,Nat.mul_assoc,Nat.mul_comm 10,Nat.add_assoc]
  rw[e2] at hb ⊢;have h3:acc*10+(b.toNat-48)<=(acc*10+(b.toNat-48))*10^l.length:=Nat.le_mul_of_pos_right _ hp;unfold Lib.parseUint10;rw[if_pos (by omega),if_neg (by omega),if_neg (by omega)];exact ih h.2 _ hb
theorem Zj5{l:List UInt8}(h:l.all Qr=true)(hn:l≠[])(h4:l.length<=17):Lib.atoiAll l=.ok (Ql l:Int):=by
 cases l with
 |nil=>exact absurd rfl hn
 |cons b t=>
  have hb:=h;simp only[List.all_cons,Bool.and_eq_true] at hb;have h1:=(QE b).1 hb.1;rw[Lib.atoiAll_plain b t (by omega) (by omega)];unfold Lib.parseMag;rw[if_neg (by simp)];have hv:=XC h;have hp:10^(b::t).length<=10^17:=Nat.pow_le_pow_right (by omega) h4;rw[ZiD _ h 0 (by omega)];simp only[Nat.zero_mul,Nat.zero_add];unfold Lib.signless;simp only;rw[if_neg (by omega)]
theorem ZiE{k:Nat}(h1:1<=k)(h2:k<=9999):VK (QS k)=true:=by
 unfold VK;obtain⟨b,l,e,hb,_⟩:=Zai k (by omega)
 have h3:=JG (m:=k) (L:=4) (by omega);have h4:=Zfk k (by omega)
 have h5:(some b:Option UInt8)≠some 48:=fun e2=>by
  injection e2 with e2;subst e2;exact absurd hb (by decide)
 rw[JE,decide_eq_true h3,decide_eq_true h4,e,List.head?_cons,decide_eq_true h5];rfl
theorem ZdI(l:List UInt8):VK l=match Lib.atoiAll l with| .ok v=>decide (1<=v)&&(decide (v<=9999)&&(Lib.itoa v==l))|_=>false:=by
 by_cases h:VK l=true
 ·have h':=h;unfold VK at h';simp only[Bool.and_eq_true,decide_eq_true_eq] at h';obtain⟨⟨⟨a1,a2⟩,a3⟩,a4⟩:=h'
  have hne:l≠[]:=fun e=>by rw[e] at a1;simp at a1
  rw[h,Zj5 a4 hne (by omega)]
  have hd:QS (Ql l)=l:=VV a4 (fun b t e=>by
   rw[e] at a3;simp only[List.head?_cons,ne_eq,Option.some.injEq] at a3;simpa using a3)
  have hv:Ql l<10^4:=Nat.lt_of_lt_of_le (XC a4) (Nat.pow_le_pow_right (by omega) a2);have h0:Ql l≠0:=fun e=>by rw[e] at hd;exact hne hd.symm
  have hi:Lib.itoa (Ql l:Int)=l:=by
   unfold Lib.itoa;rw[if_neg (by omega)]
   conv=>rhs;rw[<-hd]
   unfold QS;rw[if_neg h0];simp
  simp only[hi,beq_self_eq_true,Bool.and_true];rw[decide_eq_true (show(1:Int)<=(Ql l:Int) by omega),decide_eq_true (show(Ql l:Int)<=9999 by omega)];rfl
 ·have hf:VK l=false:=by simpa using h
  rw[hf]
  rcases ha:Lib.atoiAll l with v|_|_
  ·simp only
   cases h1:decide (1<=v) with
   |false=>rfl
   |true=>
    cases h2:decide (v<=9999) with
    |false=>rfl
    |true=>
     cases h3:Lib.itoa v==l with
     |false=>rfl
     |true=>
      exfalso
      apply h
      have h3:=eq_of_beq h3;simp only[decide_eq_true_eq] at h1 h2;rw[<-h3];unfold Lib.itoa;rw[if_neg (by omega)];have:=ZiE (k:=v.toNat) (by omega) (by omega)
      unfold QS at this;rw[if_neg (by omega)] at this;simpa using this
  ·rfl
  ·rfl
def YL(s:List UInt8):List UInt8:=s.takeWhile (·!=47)
def Jd(s:List UInt8):List UInt8:=(s.dropWhile (·!=47)).drop 1
theorem ZdJ(s:List UInt8):(47∈s->Lib.indexByte s 47=((YL s).length:Nat)/\(YL s).length<s.length/\s.take (YL s).length=YL s/\s.drop ((YL s).length+1)=Jd s)/\(47 ∉ s->Lib.indexByte s 47= -1/\YL s=s/\Jd s=[]):=by
 induction s with
 |nil=>exact⟨fun h=>by simp at h,fun _=>⟨rfl,rfl,rfl⟩⟩
 |cons b l ih=>
  by_cases hb:b=47
  ·subst hb;refine⟨fun _=> ?_,fun h=>absurd (List.mem_cons_self) h⟩;refine⟨rfl,by simp[YL],by simp[YL],?_⟩;simp[YL,Jd]
  ·have e1:YL (b::l)=b::YL l:=by unfold YL;rw[List.takeWhile_cons];simp[hb]
   have e2:Jd (b::l)=Jd l:=by unfold Jd;rw[List.dropWhile_cons];simp[hb]
   have hbb:(b==47)=false:=by simpa using hb
   constructor
   ·intro h
    have hl:47∈l:=by
     rcases List.mem_cons.1 h with e|h
     ·exact absurd e.symm hb
     ·exact h
    obtain⟨a1,a2,a3,a4⟩:=ih.1 hl
    refine⟨?_,?_,?_,?_⟩
    ·rw[Lib.indexByte,hbb,a1,e1];simp only[Bool.false_eq_true,if_false];rw[if_neg (by simp)];simp
    ·rw[e1];simp;omega
    ·rw[e1];simp[a3]
    ·rw[e1,e2];simpa using a4
   ·intro h;have hl:47 ∉ l:=fun hm=>h (List.mem_cons_of_mem b hm)
    obtain⟨a1,a2,a3⟩:=ih.2 hl
    refine⟨?_,by rw[e1,a2],by rw[e2,a3]⟩;rw[Lib.indexByte,hbb,a1];rfl
theorem Zet(s:List UInt8):idB s=(VK (Jd s)&&Qp (YL s)):=by
 unfold idB
 by_cases h:47∈s
 ·rw[decide_eq_true h,Bool.true_and,Bool.and_comm];rfl
 ·rw[decide_eq_false h];have e:Jd s=[]:=((ZdJ s).2 h).2.2;rw[e];rfl
end
section
structure Pk where
 lot:List UInt8
 q:List UInt8
deriving DecidableEq
structure Opn where
 other:List UInt8
 ratio:Fr
 price:Fr
 value:Fr
deriving DecidableEq
structure Fct where
 key:List UInt8
 stamp:Int
 cancelled:Bool
 day:Int
 kind:Int
 inst:List UInt8
 other:List UInt8
 cur:List UInt8
 target:List UInt8
 q:List UInt8
 amount:List UInt8
 fee:List UInt8
 price:Fr
 ratio:Fr
 share:Fr
 picks:List Pk
 options:List Opn
 choice:Int
deriving DecidableEq
structure KRow where
 cls:Int
 nums:List (Nat×Bool×Bool)
 more:List Nat
 code:Bool
def QM(k:Int):Option KRow:=
 match k with
 |1|2|6|17|18=>some ⟨2,[(5,true,false)],[2],false⟩
 |3=>some ⟨3,[(4,true,false),(5,false,false),(6,false,false)],[0],false⟩
 |4=>some ⟨3,[(4,true,false),(5,false,false),(6,false,false)],[0,10],false⟩
 |5=>some ⟨1,[(7,true,false)],[0],false⟩
 |7=>some ⟨2,[(4,true,false),(5,true,false)],[1,2],true⟩
 |8=>some ⟨1,[(7,false,false),(8,true,false)],[0],false⟩
 |9=>some ⟨1,[(7,false,false),(8,true,false),(9,false,true)],[0,1],false⟩
 |10=>some ⟨1,[],[0,11],false⟩
 |11=>some ⟨4,[],[0,3,12],false⟩
 |12=>some ⟨3,[(4,true,false),(7,false,false),(8,true,false)],[0,1],false⟩
 |13=>some ⟨1,[(7,true,false)],[0],false⟩
 |14=>some ⟨1,[(7,false,false)],[0],false⟩
 |15=>some ⟨4,[(7,false,false)],[0],false⟩
 |16=>some ⟨4,[(8,true,false)],[1,2],true⟩
 |_=>none
def KRow.has(r:KRow)(i:Nat):Bool:=r.nums.any (fun x=>x.1==i)||r.more.contains i
def YM(s:List UInt8):Bool:=s.length==3&&s.all fun b=>decide (65<=b.toNat)&&decide (b.toNat<=90)
def XZ(a:List UInt8):Nat:=if a.head?=some 45 then a.length-1 else a.length
def Fct.num(f:Fct)(i:Nat):Fr:=
 match i with
 |4=>⟨f.q,[]⟩
 |5=>⟨f.amount,[]⟩
 |6=>⟨f.fee,[]⟩
 |7=>f.price
 |8=>f.ratio
 |9=>f.share
 |_=>⟨[],[]⟩
def Fct.none(f:Fct)(i:Nat):Bool:=
 match i with
 |0=>f.inst==[]
 |1=>f.other==[]
 |2=>f.cur==[]
 |3=>f.target==[]
 |10=>f.picks.isEmpty
 |11=>f.options.isEmpty
 |12=>f.choice==0
 |i=>decide (f.num i=⟨[],[]⟩)
def Qx(pos part:Bool)(f:Fr):Int:=
 if ¬f.ok then 1 else if 40<XZ f.n\/40<XZ f.d then 4 else if f.rat<0\/(pos=true/\f.rat=0)\/(part=true/\1<f.rat) then 2 else 0
def XE:List Pk->List Pk->Int->Int×Int
 |[],_,sum=>(0,sum)
 |p::ps,pre,sum=>
  if idB p.lot=false then(23,sum) else if pre.any (fun x=>x.lot==p.lot) then(5,sum)
  else if Qx true false ⟨p.q,[]⟩≠0 then(Qx true false ⟨p.q,[]⟩,sum) else XE ps (pre++[p]) (sum+val p.q)
def Vq(f:Fct):Int:=
 if 64<f.picks.length then 4 else if(XE f.picks [] 0).1≠0 then(XE f.picks [] 0).1 else if val f.q<(XE f.picks [] 0).2 then 15 else 0
def Vr(inst:List UInt8):List Opn->Int
 |[]=>0
 |o::os=>
  if o.other≠[]/\Qp o.other=false then 23 else if o.other=inst then 18
  else if Qx false false o.ratio≠0 then Qx false false o.ratio else if Qx false false o.price≠0 then Qx false false o.price else if Qx false false o.value≠0 then Qx false false o.value
  else if decide (o.other≠[])≠decide (o.ratio≠⟨[],[]⟩)\/(o.other=[]/\o.value≠⟨[],[]⟩) then 2 else Vr inst os
def JK(f:Fct):Int:=if f.options.length=0 then 11 else if 8<f.options.length then 4 else Vr f.inst f.options
def QC(f:Fct)(r:KRow)(i:Nat):Int:=
 match i with
 |0=>if Qp f.inst=false then 23 else 0
 |1=>if r.code=true then(if YM f.other=false then 12 else if f.other=f.cur then 18 else 0) else if Qp f.other=false then 23 else if f.other=f.inst then 18 else 0
 |2=>if YM f.cur=false then 12 else 0
 |3=>if Qp f.target=false then 23 else 0
 |10=>Vq f
 |11=>JK f
 |12=>if f.choice<0 then 2 else 0
 |i=>match r.nums.find? (fun x=>x.1==i) with
  |some (_,pos,part)=>Qx pos part (f.num i)
  |none=>0
def Yo(f:Fct)(r:KRow)(i:Nat):Nat->Int
 |0=>0
 |n+1=>
  if r.has i=true then(if QC f r i≠0 then QC f r i else Yo f r (i+1) n)
  else if f.none i=false then 1 else Yo f r (i+1) n
def Xy(f:Fct):Int:=
 if Qp f.key=false then 23 else if f.stamp<0 then 2
 else if f.cancelled=true then(if f=⟨f.key,f.stamp,true,0,0,[],[],[],[],[],[],[],⟨[],[]⟩,⟨[],[]⟩,⟨[],[]⟩,[],[],0⟩ then 0 else 1)
 else if f.day< -25567\/84005<f.day then 13
 else match QM f.kind with
  |none=>7
  |some r=>Yo f r 0 13
end
section
open Go.RowKit Go.Shelf
def P2(p:Pk):List Value:=[S p.lot,S p.q]
def PkV(p:Pk):Value:=.agg #[S p.lot,S p.q]
theorem ZnS(p:Pk):(P2 p).length=2:=rfl
def O7(o:Opn):List Value:=[S o.other,S o.ratio.n,S o.ratio.d,S o.price.n,S o.price.d,S o.value.n,S o.value.d]
theorem ZnT(o:Opn):(O7 o).length=7:=rfl
abbrev Pks(w:World)(B:Nat)(A:Option Addr)(n:Nat)(xs:List Pk):Prop:=Sl P2 2 w B A n xs
abbrev Ops(w:World)(B:Nat)(A:Option Addr)(n:Nat)(xs:List Opn):Prop:=Sl O7 7 w B A n xs
theorem Sl.pk{w:World}{B:Nat}{A:Option Addr}{n:Nat}{xs:List Pk}{i:Nat}(h:Pks w B A n xs)(hi:i<n):
 ∃b off x,A=some ⟨b,off,none⟩/\b<B/\xs[i]?=some x/\w.cell? ⟨b,off+i*2,none⟩=some (.string ⟨x.lot.toArray⟩)/\w.cell? ⟨b,off+i*2+1,none⟩=some (.string ⟨x.q.toArray⟩):=by
 obtain⟨b,off,x,hA,hb,hx,hc⟩:=h.at_ hi
 exact⟨b,off,x,hA,hb,hx,hc 0 _ rfl,hc 1 _ rfl⟩
theorem Sl.opt{w:World}{B:Nat}{A:Option Addr}{n:Nat}{xs:List Opn}{i:Nat}(h:Ops w B A n xs)(hi:i<n):
 ∃b off x,A=some ⟨b,off,none⟩/\b<B/\xs[i]?=some x/\w.cell? ⟨b,off+i*7,none⟩=some (.string ⟨x.other.toArray⟩)/\w.cell? ⟨b,off+i*7+1,none⟩=some (.string ⟨x.ratio.n.toArray⟩)/\w.cell? ⟨b,off+i*7+2,none⟩=some (.string ⟨x.ratio.d.toArray⟩)/\
  w.cell? ⟨b,off+i*7+3,none⟩=some (.string ⟨x.price.n.toArray⟩)/\w.cell? ⟨b,off+i*7+4,none⟩=some (.string ⟨x.price.d.toArray⟩)/\w.cell? ⟨b,off+i*7+5,none⟩=some (.string ⟨x.value.n.toArray⟩)/\w.cell? ⟨b,off+i*7+6,none⟩=some (.string ⟨x.value.d.toArray⟩):=by
 obtain⟨b,off,x,hA,hb,hx,hc⟩:=h.at_ hi
 exact⟨b,off,x,hA,hb,hx,hc 0 _ rfl,hc 1 _ rfl,hc 2 _ rfl,hc 3 _ rfl,hc 4 _ rfl,hc 5 _ rfl,hc 6 _ rfl⟩
structure FaV where
 pA:Option Addr
 pn:Nat
 pc:Nat
 oA:Option Addr
 on:Nat
 oc:Nat
structure FaM (w:World) (B:Nat) (f:Fct) (v:FaV):Prop where
 pk:Pks w B v.pA v.pn f.picks
 op:Ops w B v.oA v.on f.options
 pc:v.pn<=v.pc
theorem FaM.below{w w':World}{B:Nat}{f:Fct}{v:FaV}(h:FaM w B f v)(hb:Below B w w'):FaM w' B f v:=⟨h.pk.below hb,h.op.below hb,h.pc⟩
theorem FaM.more{w:World}{B B':Nat}{f:Fct}{v:FaV}(h:FaM w B f v)(hB:B<=B'):FaM w B' f v:=⟨h.pk.more hB,h.op.more hB,h.pc⟩
theorem FaM.here{w w':World}{f:Fct}{v:FaV}(h:FaM w w.1.size f v)(hb:Below w.1.size w w'):FaM w' w'.1.size f v:=⟨h.pk.here hb,h.op.here hb,h.pc⟩
def I64(n:Int):Prop:= -9223372036854775808<=n/\n<=9223372036854775807
structure Pk.Sz (L:Nat) (p:Pk):Prop where
 lot:p.lot.length<=L
 q:p.q.length<=L
structure Opn.Sz (L:Nat) (o:Opn):Prop where
 other:o.other.length<=L
 ratio:o.ratio.Sz L
 price:o.price.Sz L
 value:o.value.Sz L
structure Fct.Sz (L:Nat) (f:Fct):Prop where
 key:f.key.length<=L
 inst:f.inst.length<=L
 other:f.other.length<=L
 cur:f.cur.length<=L
 target:f.target.length<=L
 q:f.q.length<=L
 amount:f.amount.length<=L
 fee:f.fee.length<=L
 price:f.price.Sz L
 ratio:f.ratio.Sz L
 share:f.share.Sz L
 picks:∀p∈f.picks,p.Sz L
 options:∀o∈f.options,o.Sz L
 stamp:I64 f.stamp
 day:I64 f.day
 kind:I64 f.kind
 choice:I64 f.choice
end
section
open Go.RowKit Go.Shelf
def kB(word:List UInt8)(cls:Int)(p:Nat->Bool)(mv:Value)(code:Bool):Array Value:=
 #[.string ⟨word.toArray⟩,.int .i64 cls,.bool (p 0),.bool (p 1),.bool (p 2),.bool (p 3),.bool (p 4),.bool (p 5),.bool (p 6),.bool (p 7),.bool (p 8),.bool (p 9),.bool (p 10),.bool (p 11),.bool (p 12),mv,.bool code]
theorem Zmp(word:List UInt8)(cls:Int)(p:Nat->Bool)(mv:Value)(code:Bool):(kB word cls p mv code).size=17:=rfl
theorem Zeu(word:List UInt8)(cls:Int)(p:Nat->Bool)(mv:Value)(code:Bool)(i:Nat)(hi:i<=12):(kB word cls p mv code)[2+i]?=some (.bool (p i)):=by
 match i,hi with
 |0,_=>rfl|1,_=>rfl|2,_=>rfl|3,_=>rfl|4,_=>rfl|5,_=>rfl|6,_=>rfl|7,_=>rfl|8,_=>rfl|9,_=>rfl|10,_=>rfl|11,_=>rfl|12,_=>rfl
theorem ZgS(word:List UInt8)(cls:Int)(p:Nat->Bool)(mv:Value)(code:Bool)(i:Nat)(hi:i<=12):(kB word cls p mv code).setIfInBounds (2+i) (.bool true)=kB word cls (fun j=>if j==i then true else p j) mv code:=by
 match i,hi with
 |0,_=>rfl|1,_=>rfl|2,_=>rfl|3,_=>rfl|4,_=>rfl|5,_=>rfl|6,_=>rfl|7,_=>rfl|8,_=>rfl|9,_=>rfl|10,_=>rfl|11,_=>rfl|12,_=>rfl
theorem Vs{word:List UInt8}{cls:Int}{p q:Nat->Bool}{mv:Value}{code:Bool}(h:∀i,i<=12->p i=q i):kB word cls p mv code=kB word cls q mv code:=by
 unfold kB;rw[h 0 (by omega),h 1 (by omega),h 2 (by omega),h 3 (by omega),h 4 (by omega),h 5 (by omega),h 6 (by omega),h 7 (by omega),h 8 (by omega),h 9 (by omega),h 10 (by omega),h 11 (by omega),h 12 (by omega)]
theorem Jn(word:List UInt8)(cls:Int)(p:Nat->Bool)(mv:Value)(code:Bool)(h:mv.oneCell'=true):(kB word cls p mv code).all (·.oneCell')=true:=by
 rw[Array.all_eq_true_iff_forall_mem];intro x hx;simp only[kB,List.mem_toArray,List.mem_cons,List.mem_nil_iff,or_false] at hx
 rcases hx with rfl|rfl|rfl|rfl|rfl|rfl|rfl|rfl|rfl|rfl|rfl|rfl|rfl|rfl|rfl|rfl|rfl<;>first|exact h|rfl
def Qk(f:Fct)(v:FaV):Array Value:=
 #[.string ⟨f.key.toArray⟩,.int .i64 f.stamp,.bool f.cancelled,.int .i64 f.day,.int .i64 f.kind,.string ⟨f.inst.toArray⟩,.string ⟨f.other.toArray⟩,.string ⟨f.cur.toArray⟩,.string ⟨f.target.toArray⟩,.string ⟨f.q.toArray⟩,.string ⟨f.amount.toArray⟩,.string ⟨f.fee.toArray⟩,
  .string ⟨f.price.n.toArray⟩,.string ⟨f.price.d.toArray⟩,.string ⟨f.ratio.n.toArray⟩,.string ⟨f.ratio.d.toArray⟩,.string ⟨f.share.n.toArray⟩,.string ⟨f.share.d.toArray⟩,.slice v.pA v.pn v.pc,.slice v.oA v.on v.oc,.int .i64 f.choice]
theorem QJ(f:Fct)(v:FaV):(Qk f v).size=21:=rfl
def ldK(v:Value):Sem Value:=Instr.loadAt 141 v
theorem JL(v:Value):Instr.loadAt 141 v=ldK v:=rfl
theorem Zcd{w:World}{g:Nat}{pb:Array Value}(hg:BlkB w g pb 141)(hs:pb.size=17):(ldK (.pointer (some ⟨g,0,none⟩))).run Tryz.prog w=.ok (.agg pb) w:=by
 have e:=run_loadVar_row (P:=Tryz.prog) w g 141 141 pb (0,0) _ hg Tryz.underlying141 rfl (by rw[hs];kernel_rfl);unfold ldK;simp only[Instr.loadAt,Instr.sureAddr,Sem.run_bind,Sem.run_pure,Result.andThen_ok,e]
def stK(a v:Value):Sem Unit:=Instr.storeAt 141 a v
theorem Zev(a v:Value):Instr.storeAt 141 a v=stK a v:=rfl
theorem Zan{w:World}{g:Nat}{old pb:Array Value}(hg:BlkB w g old 141)(ho:old.size=17)(hs:pb.size=17)(h1:pb.all (·.oneCell')=true):(stK (.pointer (some ⟨g,0,none⟩)) (.agg pb)).run Tryz.prog w=.ok () (w.setRow g pb):=by
 have e:=run_storeVar_row (P:=Tryz.prog) w g 141 141 old pb hg (by rw[hs];kernel_rfl) (by rw[ho,hs]) h1;unfold stK;simp only[Instr.storeAt,Instr.sureAddr,Sem.run_bind,Sem.run_pure,Result.andThen_ok,e]
def ldF(v:Value):Sem Value:=Instr.loadAt 30 v
theorem Xz(v:Value):Instr.loadAt 30 v=ldF v:=rfl
theorem QD{w:World}{g:Nat}{pb:Array Value}(hg:BlkB w g pb 30)(hs:pb.size=21):(ldF (.pointer (some ⟨g,0,none⟩))).run Tryz.prog w=.ok (.agg pb) w:=by
 have e:=run_loadVar_row (P:=Tryz.prog) w g 30 30 pb (0,0) _ hg Tryz.underlying30 rfl (by rw[hs];kernel_rfl);unfold ldF;simp only[Instr.loadAt,Instr.sureAddr,Sem.run_bind,Sem.run_pure,Result.andThen_ok,e]
end
section
open Go.RowKit Go.Shelf
theorem Zgc(g:Nat)(cb:Array Value)(p:Pk->Bool)(A:Option Addr)(n c:Nat)(xs:List Pk)(w:World)(eg:∀args w,(callFunc g args).run Tryz.prog w=.ok (.enter g args) w)
 (hp:∀(W:World) (x:Pk),x∈xs->Below w.1.size w W->Calls Tryz.prog g (#[PkV x]++cb) W fun e w'=>e=.returned (.bool (p x))/\Below W.1.size W w') (hr:Sl P2 2 w w.1.size A n xs) (hn:n<=1000000000):
 Calls Tryz.prog 271 #[.slice A n c,.func (.func g) #[] cb] w fun e w'=>e=.returned (.int .i64 (Zb6 p xs))/\Below w.1.size w w':=by
 have HPR:=jq hp;have HR:=jq hr;clear hp hr;go_enter Tryz.func271,Tryz.ntmps271
 go_wp2
 go_loopw [5,8] (fun _ i wr=>∃j:Nat,j<=n/\i=.int .i64 j/\Hid ((xs.take j).any p=false)/\Below w.1.size w wr) (fun _ i _=>n-(intOf i).toNat)
 case atStart=>exact⟨0,Nat.zero_le _,rfl,by show _=_;simp,Below.refl _ _⟩
 case round=>
  obtain⟨j,hj,rfl,HN,hb⟩:=hrel
  by_cases hlt:j<n
  ·obtain⟨b,off,r,rfl,hbl,hxj,hd⟩:=(HR.out.below hb).at_ hlt
   have d0:wr.cell? ⟨b,off+j*2,none⟩=some (.string ⟨r.lot.toArray⟩):=hd 0 _ rfl;have d1:wr.cell? ⟨b,off+j*2+1,none⟩=some (.string ⟨r.q.toArray⟩):=hd 1 _ rfl;have HX:=jq hxj;have hcall:=HPR.out wr r (List.mem_of_getElem? hxj) hb;unfold PkV S at hcall;clear hxj hd;have HC:=jq hcall;clear hcall
   cases hq:p r with
   |true=>
    rw[hq] at HC;have HQ:=jq hq;clear hq;go_wp2_with (go_at_fn g;refine(HC.out).mono ?_;rintro e w' ⟨rfl,hb'⟩)
    go_ret
    exact⟨Qb (Zco HX.out HQ.out HN.out).symm,hb.trans (hb'.mono hb.size)⟩
   |false=>
    rw[hq] at HC;have HQ:=jq hq;clear hq;go_wp2_with (go_at_fn g;refine(HC.out).mono ?_;rintro e w' ⟨rfl,hb'⟩)
    go_roundw
    case rel=>exact⟨j+1,by omega,by go_num,VR HX.out HN.out HQ.out,hb.trans (hb'.mono hb.size)⟩
    case measure=>simp[intOf];omega
  ·go_wp2
   go_ret
   exact⟨Qb (Zah (by have:=HN.out;rwa [List.take_of_length_le (by have:=HR.out.1;omega)] at this)).symm,hb⟩
theorem Zc7(g:Nat)(cb:Array Value)(p:Pk->Bool)(A:Option Addr)(n c:Nat)(xs:List Pk)(w:World)(eg:∀args w,(callFunc g args).run Tryz.prog w=.ok (.enter g args) w)
 (hp:∀(W:World) (x:Pk),x∈xs->Below w.1.size w W->Calls Tryz.prog g (#[PkV x]++cb) W fun e w'=>e=.returned (.bool (p x))/\Below W.1.size W w') (hr:Sl P2 2 w w.1.size A n xs) (hn:n<=1000000000):
 Calls Tryz.prog 225 #[.slice A n c,.func (.func g) #[] cb] w fun e w'=>e=.returned (.bool (xs.any p))/\Below w.1.size w w':=by
 have H:=jq (Zgc g cb p A n c xs w eg hp hr hn);clear hp eg hr;have e:=JD p xs;generalize Zb6 p xs=z at*;have E:=jq e;clear e;go_enter Tryz.func225,Tryz.ntmps225
 go_wp2_with (go_at_call 271;refine(H.out).mono ?_;rintro e w' ⟨rfl,hb'⟩)
 go_ret
 exact⟨Qe E.out,hb'⟩
end
section
open Go.RowKit Go.Shelf
theorem Zee(l:List Int):((List.range l.length).map (fun i=>l.getD i 0)).sum=l.sum:=by
 induction l with
 |nil=>rfl
 |cons a l ih=>
  rw[List.length_cons,List.range_succ_eq_map,List.map_cons,List.sum_cons,List.map_map,List.sum_cons,<-ih];rfl
theorem JZ(f:Nat->Int)(i:Nat):((List.range (i+1)).map f).sum=((List.range i).map f).sum+f i:=by
 rw[List.range_succ,List.map_append,Xe];simp
section
variable {ls:List Lot} {m:Mp}
end
end
section
open Go.RowKit Go.Shelf
def ZnM(ls l:List Lot):List Lot:=l.filter (fun x=>decide (x.id ∉ ls.map (·.id)))
section
variable {ls:List Lot} {m:Mp} {A B:List Lot}
abbrev Zl2(ls:List Lot)(m:Mp):List Lot:=Qf ls m.inst
abbrev plO(ls:List Lot)(m:Mp):Plan:=Xv (Qf ls m.inst) m
abbrev mdO(ls:List Lot)(m:Mp):List Lot:=Zj2 m (plO ls m) (Zl2 ls m)
theorem MapOk.ids(h:MapOk ls m A B):∀z∈A++B,z.id∈ls.map (·.id):=by
 intro z hz;rw[<-h.cut] at hz;exact(ZiC m _ 0 ls).subset (List.mem_map.2 ⟨z,hz,rfl⟩)
theorem MapOk.new(h:MapOk ls m A B):ZnM ls (A++mdO ls m++B)=mdO ls m:=by
 unfold ZnM
 have hA:A.filter (fun x=>decide (x.id ∉ ls.map (·.id)))=[]:=by
  rw[List.filter_eq_nil_iff];intro z hz;have:=h.ids z (by simp[hz])
  simpa using this
 have hB:B.filter (fun x=>decide (x.id ∉ ls.map (·.id)))=[]:=by
  rw[List.filter_eq_nil_iff];intro z hz;have:=h.ids z (by simp[hz])
  simpa using this
 rw[List.filter_append,List.filter_append,hA,hB,List.nil_append,List.append_nil,List.filter_eq_self];intro z hz;have:=h.free z hz
 simpa using this
theorem ZaT(m:Mp)(x:Plan)(old:List Lot)(i:Nat)(hi:i<=old.length):
 ((Zbu m x old i).map (fun g=>val g.cost)).sum=((List.range i).map (fun k=>x.f.getD k 0)).sum/\((Zbu m x old i).map (fun g=>val g.proceeds)).sum=((List.range i).map (fun k=>x.p.getD k 0)).sum:=by
 induction i with
 |zero=>exact⟨rfl,rfl⟩
 |succ i ih=>
  obtain⟨h1,h2⟩:=ih (by omega)
  have e:Zbu m x old (i+1)=Zbu m x old i++(if x.p.getD i 0=0/\x.f.getD i 0=0 then[] else[{cause:=m.cause,lot:=(old[i]'(by omega)).id,inst:=m.other,acq:=(old[i]'(by omega)).acq,closed:=m.day,q:=[],proceeds:=Qa (x.p.getD i 0),cost:=Qa (x.f.getD i 0),deferred:=[],replaced:=[]}]):=by
   unfold Zbu;rw[List.range_succ,List.filterMap_append]
   congr 1
   simp only[List.filterMap_cons,List.filterMap_nil,List.getElem?_eq_getElem (show i<old.length by omega)]
   by_cases h:x.p.getD i 0=0/\x.f.getD i 0=0
   ·simp only[if_pos h]
   ·simp only[if_neg h]
  rw[e,List.map_append,List.map_append,Xe,Xe,h1,h2,JZ,JZ]
  by_cases h:x.p.getD i 0=0/\x.f.getD i 0=0
  ·rw[if_pos h,h.1,h.2];exact⟨by simp,by simp⟩
  ·rw[if_neg h];simp only[List.map_cons,List.map_nil,List.sum_cons,List.sum_nil,Qc];exact⟨by omega,by omega⟩
theorem MapOk.gains(h:MapOk ls m A B):((Zj3 m (plO ls m) (Zl2 ls m)).map (fun g=>val g.cost)).sum=(plO ls m).taken/\((Zj3 m (plO ls m) (Zl2 ls m)).map (fun g=>val g.proceeds)).sum=(plO ls m).cash:=by
 have hok:=Zfy (Zam h.ok m.inst) h.mp;obtain⟨s1,s2,s3,s4,s5⟩:=ZgR (Zam h.ok m.inst) h.mp h.old
 obtain⟨l1,l2,l3,l4⟩:=ZgQ (Qf ls m.inst) m
 unfold Zj3
 by_cases hp:(plO ls m).part=0
 ·rw[if_pos hp,hok.whole hp,hok.cash1 hp];exact⟨rfl,rfl⟩
 ·rw[if_neg hp];obtain⟨e1,e2⟩:=ZaT m (plO ls m) (Zl2 ls m) (Zl2 ls m).length (Nat.le_refl _)
  have f1:=Zee (plO ls m).f;have f2:=Zee (plO ls m).p;rw[l3] at f1;rw[l4] at f2;rw[e1,e2,f1,f2,s3,s4];exact⟨rfl,rfl⟩
end
end
section
open Go.RowKit Go.Shelf
end
section
open Go.RowKit Go.Shelf
end
section
open Go.RowKit Go.Shelf
section
variable {ls:List Lot} {m:Mp}
end
end
section
open Go.RowKit Go.Shelf
def QZ(l:List Lot)(i:List UInt8)(g:Lot->Int):Int:=((Qf l i).map g).sum
def Mp.none:Mp:=⟨[],0,[],[],Fr.zero,Fr.zero,Fr.zero,false⟩
end
section
open Go.RowKit Go.Shelf
theorem Zol{α:Type}{l:List α}{g:α->Int}{L:Nat}(h:∀a∈l,(g a).natAbs<10^L)(hl:l.length<=1000):((l.map g).sum).natAbs<10^(L+4):=by
 have h1:∀(k:List α),(∀a∈k,(g a).natAbs<10^L)->((k.map g).sum).natAbs<=k.length*10^L:=by
  intro k
  induction k with
  |nil=>intro _;simp
  |cons a k ih=>
   intro hk;have e1:=hk a (by simp);have e2:=ih (fun b hb=>hk b (by simp[hb]));rw[List.map_cons,List.sum_cons,List.length_cons,Nat.succ_mul];omega
 have h2:=h1 l h;have h3:l.length*10^L<=1000*10^L:=Nat.mul_le_mul_right _ hl;have h4:10^(L+4)=10000*10^L:=by rw[Nat.pow_add,Nat.mul_comm]
 have h5:0<10^L:=Nat.pow_pos (by omega);rw[h4];generalize 10^L=P at*;generalize l.length*P=Z at*;omega
theorem Zl3{q:Rat}{K:Nat}(h:RB K q)(hK:1<=K):(rnd q).natAbs<10^(K+1):=by
 have h1:=Zeq q;have h2:=(ZaJ q).2;have h3:=h.1;have h4:10^(K+1)=10*10^K:=by rw[Nat.pow_add,Nat.mul_comm]
 have h5:10^1<=10^K:=Nat.pow_le_pow_right (by omega) hK;rw[h4];generalize 10^K=P at*
 rcases h2 with h2|⟨h2,_⟩<;>omega
theorem ZhE{q:Rat}{K:Nat}(h:RB K q)(hK:1<=K):(QW q).natAbs<10^(K+1):=by
 have h1:=Zeq q;have h3:=h.1;have h4:10^(K+1)=10*10^K:=by rw[Nat.pow_add,Nat.mul_comm]
 have h5:10^1<=10^K:=Nat.pow_le_pow_right (by omega) hK;rw[h4];generalize 10^K=P at*;omega
theorem Znv{q:Rat}{K:Nat}(h:RB K q):RB K (q-((QW q:Int):Rat)):=by
 rw[Zcc];obtain⟨h1,h2⟩:=XT q
 have hd:(q.den:Int)≠0:=by have:=q.den_nz;omega
 exact RB.divInt (by have:=h.2;omega) (by have:=h.2;omega) hd
theorem Ze5{p q:Rat}{K:Nat}(hp:RB K p)(hq:RB K q):RB (K+K+2) (p*q):=by
 have h:=ZgI (QV hp) (QV hq) (by omega);rw[Qj,Qj] at h;exact h.more (by omega)
theorem ZaU{k:Int}{K:Nat}(h:k.natAbs<10^K)(hK:1<=K):RB K ((k:Int):Rat):=by
 refine⟨by simpa using h,?_⟩;have:10^1<=10^K:=Nat.pow_le_pow_right (by omega) hK
 simp
 omega
end
end Go.Proofs.YtkddgeclncafoaaGreatDoor
