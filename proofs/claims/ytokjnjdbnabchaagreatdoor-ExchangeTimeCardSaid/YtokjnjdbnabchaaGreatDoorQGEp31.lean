/- Fk0, Vw0, Vw1, Vw2, Ex1, Vw3, Vsp, Vdp, CapB. -/
import Derived.Test.YtokjnjdbnabchaaGreatDoorQGEp1
import Derived.Lib.SlicesCompact
namespace Go.Proofs.YtokjnjdbnabchaaGreatDoor
section
structure Pk where
 lot:List UInt8
 q:List UInt8
deriving DecidableEq
structure Opn where
 other:List UInt8
 ratio:Fr
 price:Fr
 value:Fr
deriving DecidableEq
structure Fct where
 key:List UInt8
 stamp:Int
 cancelled:Bool
 day:Int
 kind:Int
 inst:List UInt8
 other:List UInt8
 cur:List UInt8
 target:List UInt8
 q:List UInt8
 amount:List UInt8
 fee:List UInt8
 price:Fr
 ratio:Fr
 share:Fr
 picks:List Pk
 options:List Opn
 choice:Int
deriving DecidableEq
structure KRow where
 cls:Int
 nums:List (Nat×Bool×Bool)
 more:List Nat
 code:Bool
def Xv(k:Int):Option KRow:=
 match k with
 |1|2|6|17|18=>some ⟨2,[(5,true,false)],[2],false⟩
 |3=>some ⟨3,[(4,true,false),(5,false,false),(6,false,false)],[0],false⟩
 |4=>some ⟨3,[(4,true,false),(5,false,false),(6,false,false)],[0,10],false⟩
 |5=>some ⟨1,[(7,true,false)],[0],false⟩
 |7=>some ⟨2,[(4,true,false),(5,true,false)],[1,2],true⟩
 |8=>some ⟨1,[(7,false,false),(8,true,false)],[0],false⟩
 |9=>some ⟨1,[(7,false,false),(8,true,false),(9,false,true)],[0,1],false⟩
 |10=>some ⟨1,[],[0,11],false⟩
 |11=>some ⟨4,[],[0,3,12],false⟩
 |12=>some ⟨3,[(4,true,false),(7,false,false),(8,true,false)],[0,1],false⟩
 |13=>some ⟨1,[(7,true,false)],[0],false⟩
 |14=>some ⟨1,[(7,false,false)],[0],false⟩
 |15=>some ⟨4,[(7,false,false)],[0],false⟩
 |16=>some ⟨4,[(8,true,false)],[1,2],true⟩
 |_=>none
def KRow.has(r:KRow)(i:Nat):Bool:=r.nums.any (fun x=>x.1==i)||r.more.contains i
def Qp(s:List UInt8):Bool:=s.length==3&&s.all fun b=>decide (65<=b.toNat)&&decide (b.toNat<=90)
def JL(a:List UInt8):Nat:=if a.head?=some 45 then a.length-1 else a.length
def Fct.num(f:Fct)(i:Nat):Fr:=
 match i with
 |4=>⟨f.q,[]⟩
 |5=>⟨f.amount,[]⟩
 |6=>⟨f.fee,[]⟩
 |7=>f.price
 |8=>f.ratio
 |9=>f.share
 |_=>⟨[],[]⟩
def Fct.none(f:Fct)(i:Nat):Bool:=
 match i with
 |0=>f.inst==[]
 |1=>f.other==[]
 |2=>f.cur==[]
 |3=>f.target==[]
 |10=>f.picks.isEmpty
 |11=>f.options.isEmpty
 |12=>f.choice==0
 |i=>decide (f.num i=⟨[],[]⟩)
def QT(pos part:Bool)(f:Fr):Int:=
 if ¬f.ok then 1 else if 40<JL f.n\/40<JL f.d then 4 else if f.rat<0\/(pos=true/\f.rat=0)\/(part=true/\1<f.rat) then 2 else 0
def XR:List Pk->List Pk->Int->Int×Int
 |[],_,sum=>(0,sum)
 |p::ps,pre,sum=>
  if idB p.lot=false then(23,sum) else if pre.any (fun x=>x.lot==p.lot) then(5,sum)
  else if QT true false ⟨p.q,[]⟩≠0 then(QT true false ⟨p.q,[]⟩,sum) else XR ps (pre++[p]) (sum+val p.q)
def VN(f:Fct):Int:=
 if 64<f.picks.length then 4 else if(XR f.picks [] 0).1≠0 then(XR f.picks [] 0).1 else if val f.q<(XR f.picks [] 0).2 then 15 else 0
def VO(inst:List UInt8):List Opn->Int
 |[]=>0
 |o::os=>
  if o.other≠[]/\Qv o.other=false then 23 else if o.other=inst then 18
  else if QT false false o.ratio≠0 then QT false false o.ratio else if QT false false o.price≠0 then QT false false o.price else if QT false false o.value≠0 then QT false false o.value
  else if decide (o.other≠[])≠decide (o.ratio≠⟨[],[]⟩)\/(o.other=[]/\o.value≠⟨[],[]⟩) then 2 else VO inst os
def ZaO(f:Fct):Int:=if f.options.length=0 then 11 else if 8<f.options.length then 4 else VO f.inst f.options
def XW(f:Fct)(r:KRow)(i:Nat):Int:=
 match i with
 |0=>if Qv f.inst=false then 23 else 0
 |1=>if r.code=true then(if Qp f.other=false then 12 else if f.other=f.cur then 18 else 0) else if Qv f.other=false then 23 else if f.other=f.inst then 18 else 0
 |2=>if Qp f.cur=false then 12 else 0
 |3=>if Qv f.target=false then 23 else 0
 |10=>VN f
 |11=>ZaO f
 |12=>if f.choice<0 then 2 else 0
 |i=>match r.nums.find? (fun x=>x.1==i) with
  |some (_,pos,part)=>QT pos part (f.num i)
  |none=>0
def Yx(f:Fct)(r:KRow)(i:Nat):Nat->Int
 |0=>0
 |n+1=>
  if r.has i=true then(if XW f r i≠0 then XW f r i else Yx f r (i+1) n)
  else if f.none i=false then 1 else Yx f r (i+1) n
def QL(f:Fct):Int:=
 if Qv f.key=false then 23 else if f.stamp<0 then 2
 else if f.cancelled=true then(if f=⟨f.key,f.stamp,true,0,0,[],[],[],[],[],[],[],⟨[],[]⟩,⟨[],[]⟩,⟨[],[]⟩,[],[],0⟩ then 0 else 1)
 else if f.day< -25567\/84005<f.day then 13
 else match Xv f.kind with
  |none=>7
  |some r=>Yx f r 0 13
end
section
open Go
def ZbB(s t:List UInt8):Int:=if Op.bytesLess s t=true then-1 else if Op.bytesLess t s=true then 1 else 0
def XM(a b:Int):Int:=if a<b then-1 else if b<a then 1 else 0
def Xa(k:Int):Int:=match Xv k with
 |some r=>r.cls
 |none=>0
def YG(f g:Fct):Int:=if XM f.day g.day≠0 then XM f.day g.day else if XM (Xa f.kind) (Xa g.kind)≠0 then XM (Xa f.kind) (Xa g.kind) else ZbB f.key g.key
def ZaZ(p:Option Fct)(f:Fct):Bool:=match p with
 |some g=>decide (0<=YG g f)
 |none=>false
def ZfF(seen:List (List UInt8)):List Fct->List Fct
 |[]=>[]
 |f::fs=>if seen.contains f.key=true then ZfF seen fs else f::ZfF (f.key::seen) fs
def ZbC:List Fct->List Fct->Int
 |_,[]=>0
 |pre,f::fs=>
  if QL f≠0 then QL f else if f.cancelled=true then 19 else if f.stamp≠0 then 1 else if(pre.any fun g=>g.key==f.key)=true then 5
  else if ZaZ pre.getLast? f=true then 8 else ZbC (pre++[f]) fs
def Va(v:List Fct):Int:=if 1000<v.length then 4 else ZbC [] v
def XF(v:List Fct)(d:Int):List Fct×Int:=if Va v≠0 then([],1) else if d< -25567\/84005<d then([],13) else(v.filter fun f=>decide (f.day<=d),0)
def ZiN(l:List Fct)(key:List UInt8):Option Fct:=l.reverse.find? fun f=>f.key==key
def Zi6(a b:List Fct):List Fct:=a.filter fun f=>decide (ZiN b f.key≠some f)
def VW(s:List UInt8):List (List UInt8)->List (List UInt8)
 |[]=>[s]
 |t::ts=>if Op.bytesLess s t=true then s::t::ts else if Op.bytesLess t s=true then t::VW s ts else t::ts
def Vp:List (List UInt8)->List (List UInt8)
 |[]=>[]
 |s::ss=>VW s (Vp ss)
end
section
open Go
theorem blt:∀(x y:List UInt8),(Op.bytesLess x y=true)↔x<y
 |[],[]=>by simp[Op.bytesLess]
 |[],_::_=>by simp[Op.bytesLess]
 |_::_,[]=>by simp[Op.bytesLess]
 |a::x,b::y=>by
  have ih:=blt x y;simp only[Op.bytesLess,List.cons_lt_cons_iff,Bool.or_eq_true,Bool.and_eq_true,decide_eq_true_eq,beq_iff_eq,ih]
theorem JD(x y:List UInt8):x<y\/x=y\/y<x:=by
 rcases Decidable.em (x<y) with h|h
 ·exact .inl h
 ·rcases Decidable.em (y<x) with h2|h2
  ·exact .inr (.inr h2)
  ·exact .inr (.inl (List.le_antisymm (List.not_lt.1 h2) (List.not_lt.1 h)))
theorem ZfG{x y:List UInt8}(h:x<y):¬y<x:=fun h2=>List.lt_irrefl x (List.lt_trans h h2)
theorem Zhm(s t:List UInt8):ZbB s t<0↔s<t:=by
 unfold ZbB
 by_cases h:s<t
 ·rw[if_pos ((blt s t).2 h)];exact⟨fun _=>h,fun _=>by decide⟩
 ·rw[if_neg (fun e=>h ((blt s t).1 e))]
  split<;>exact⟨fun e=>absurd e (by decide),fun e=>absurd e h⟩
def bef(f g:Fct):Prop:=f.day<g.day\/(f.day=g.day/\(Xa f.kind<Xa g.kind\/(Xa f.kind=Xa g.kind/\f.key<g.key)))
theorem ZdU(a b:Int):XM a b<0↔a<b:=by unfold XM;split<;>(try split)<;>omega
theorem ZdV(a b:Int):XM a b=0↔a=b:=by unfold XM;split<;>(try split)<;>omega
theorem Za0(f g:Fct):YG f g<0↔bef f g:=by
 unfold YG bef;have a1:=ZdU f.day g.day;have a3:=ZdV f.day g.day;have b1:=ZdU (Xa f.kind) (Xa g.kind);have b3:=ZdV (Xa f.kind) (Xa g.kind);have c1:=Zhm f.key g.key
 by_cases h:XM f.day g.day=0
 ·rw[if_neg (by simpa using h)];have hd:=a3.1 h
  by_cases h2:XM (Xa f.kind) (Xa g.kind)=0
  ·rw[if_neg (by simpa using h2)];have hc:=b3.1 h2;rw[c1]
   constructor
   ·intro hk;exact .inr ⟨hd,.inr ⟨hc,hk⟩⟩
   ·rintro(h4|⟨_,h4|⟨_,h4⟩⟩)
    ·omega
    ·omega
    ·exact h4
  ·rw[if_pos h2,b1];have hc:=mt b3.2 h2
   constructor
   ·intro h4;exact .inr ⟨hd,.inl h4⟩
   ·rintro(h4|⟨_,h4|⟨h4,_⟩⟩)
    ·omega
    ·exact h4
    ·exact absurd h4 hc
 ·rw[if_pos h,a1];have hd:=mt a3.2 h
  constructor
  ·exact .inl
  ·rintro(h4|⟨h4,_⟩)
   ·exact h4
   ·exact absurd h4 hd
theorem Zew{f g h:Fct}(h1:bef f g)(h2:bef g h):bef f h:=by
 unfold bef at*
 rcases h1 with a|⟨a,b|⟨b,c⟩⟩<;>rcases h2 with d|⟨d,e|⟨e,k⟩⟩
 ·exact .inl (by omega)
 ·exact .inl (by omega)
 ·exact .inl (by omega)
 ·exact .inl (by omega)
 ·exact .inr ⟨by omega,.inl (by omega)⟩
 ·exact .inr ⟨by omega,.inl (by omega)⟩
 ·exact .inl (by omega)
 ·exact .inr ⟨by omega,.inl (by omega)⟩
 ·exact .inr ⟨by omega,.inr ⟨by omega,List.lt_trans c k⟩⟩
abbrev Srt(l:List Fct):Prop:=l.Pairwise bef
abbrev DK(l:List Fct):Prop:=l.Pairwise fun f g=>f.key≠g.key
theorem ZfH{α:Type}{r:α->α->Prop}(hi:∀x,¬r x x)(ht:∀x y z,r x y->r y z->r x z):∀{a b:List α},a.Pairwise r->b.Pairwise r->(∀x,x∈a↔x∈b)->a=b
 |[],[],_,_,_=>rfl
 |[],y::b,_,_,h=>by have:=(h y).2 (List.mem_cons_self ..);cases this
 |x::a,[],_,_,h=>by have:=(h x).1 (List.mem_cons_self ..);cases this
 |x::a,y::b,h1,h2,h=>by
  rw[List.pairwise_cons] at h1 h2
  have hxy:x=y:=by
   rcases List.mem_cons.1 ((h x).1 (List.mem_cons_self ..)) with e|e
   ·exact e
   ·rcases List.mem_cons.1 ((h y).2 (List.mem_cons_self ..)) with e2|e2
    ·exact e2.symm
    ·exact absurd (ht _ _ _ (h1.1 y e2) (h2.1 x e)) (hi x)
  subst hxy
  congr 1
  refine ZfH hi ht h1.2 h2.2 fun z=> ?_
  have hz:=h z;rw[List.mem_cons,List.mem_cons] at hz
  constructor
  ·intro hm
   rcases hz.1 (.inr hm) with e|e
   ·subst e;exact absurd (h1.1 z hm) (hi z)
   ·exact e
  ·intro hm
   rcases hz.2 (.inr hm) with e|e
   ·subst e;exact absurd (h2.1 z hm) (hi z)
   ·exact e
section
end
end
section
open Go
structure LogOk (l:List Fct):Prop where
 len:l.length<=1000
 chk:∀f∈l,QL f=0
 ord:l.Pairwise fun f g=>f.stamp<=g.stamp
theorem LogOk.sub{l m:List Fct}(h:LogOk l)(hs:m.Sublist l):LogOk m:=⟨Nat.le_trans hs.length_le h.len,fun f hf=>h.chk f (hs.subset hf),h.ord.sublist hs⟩
theorem LogOk.take{l:List Fct}(h:LogOk l)(k:Nat):LogOk (l.take k):=h.sub (List.take_sublist k l)
structure VwOk (v:List Fct):Prop where
 len:v.length<=1000
 chk:∀f∈v,QL f=0/\f.cancelled=false/\f.stamp=0
 dk:DK v
 srt:Srt v
theorem Za1:∀(fs pre:List Fct),DK pre->Srt pre->(ZbC pre fs=0↔(∀f∈fs,QL f=0/\f.cancelled=false/\f.stamp=0)/\DK (pre++fs)/\Srt (pre++fs))
 |[],pre,hd,hs=>by rw[List.append_nil];exact⟨fun _=>⟨fun f h=>(by cases h),hd,hs⟩,fun _=>rfl⟩
 |f::fs,pre,hd,hs=>by
  unfold ZbC
  have bad:∀(z:Int),z≠0->¬((∀g∈f::fs,QL g=0/\g.cancelled=false/\g.stamp=0)/\DK (pre++f::fs)/\Srt (pre++f::fs))->(z=0↔((∀g∈f::fs,QL g=0/\g.cancelled=false/\g.stamp=0)/\DK (pre++f::fs)/\Srt (pre++f::fs))):=
   fun z hz hn=>⟨fun h=>absurd h hz,fun h=>absurd h hn⟩
  by_cases h1:QL f=0
  ·rw[if_neg (by simpa using h1)]
   by_cases h2:f.cancelled=true
   ·rw[if_pos h2]
    exact bad 19 (by decide) fun h=>by have:=(h.1 f (List.mem_cons_self ..)).2.1;rw[h2] at this;cases this
   rw[if_neg h2]
   by_cases h3:f.stamp=0
   ·rw[if_neg (by simpa using h3)]
    by_cases h4:(pre.any fun g=>g.key==f.key)=true
    ·rw[if_pos h4];refine bad 5 (by decide) fun h=> ?_
     obtain⟨g,hg,e⟩:=List.any_eq_true.1 h4
     exact(List.pairwise_append.1 h.2.1).2.2 g hg f (List.mem_cons_self ..) (by simpa using e)
    ·rw[if_neg h4]
     by_cases h5:ZaZ pre.getLast? f=true
     ·rw[if_pos h5];refine bad 8 (by decide) fun h=> ?_
      cases hg:pre.getLast? with
      |none=>rw[hg] at h5;cases h5
      |some g=>
       rw[hg] at h5;have hb:=(List.pairwise_append.1 h.2.2).2.2 g (List.mem_of_getLast? hg) f (List.mem_cons_self ..);have:=(Za0 g f).2 hb
       simp[ZaZ] at h5;omega
     ·rw[if_neg h5];have hk:∀g∈pre,g.key≠f.key:=fun g hg e=>h4 (List.any_eq_true.2 ⟨g,hg,by simpa using e⟩)
      have hd2:DK (pre++[f]):=List.pairwise_append.2 ⟨hd,List.pairwise_singleton ..,fun g hg x hx=>by rw[List.mem_singleton.1 hx];exact hk g hg⟩
      have hs2:Srt (pre++[f]):=by
       refine List.pairwise_append.2 ⟨hs,List.pairwise_singleton ..,fun g hg x hx=> ?_⟩;rw[List.mem_singleton.1 hx]
       cases hl:pre.getLast? with
       |none=>rw[List.getLast?_eq_none_iff] at hl;subst hl;cases hg
       |some y=>
        rw[hl] at h5;have hyf:bef y f:=(Za0 y f).1 (by simp[ZaZ] at h5;omega);obtain⟨ys,rfl⟩:=List.getLast?_eq_some_iff.1 hl
        rcases List.mem_append.1 hg with hg|hg
        ·exact Zew ((List.pairwise_append.1 hs).2.2 g hg y (List.mem_cons_self ..)) hyf
        ·rw[List.mem_singleton.1 hg];exact hyf
      rw[Za1 fs (pre++[f]) hd2 hs2,List.append_assoc,List.singleton_append]
      constructor
      ·rintro⟨a,b,c⟩;refine⟨fun g hg=> ?_,b,c⟩
       rcases List.mem_cons.1 hg with rfl|hg
       ·exact⟨h1,by simpa using h2,h3⟩
       ·exact a g hg
      ·rintro⟨a,b,c⟩;exact⟨fun g hg=>a g (List.mem_cons_of_mem _ hg),b,c⟩
   ·rw[if_pos h3];exact bad 1 (by decide) fun h=>h3 (h.1 f (List.mem_cons_self ..)).2.2
  ·rw[if_pos h1];exact bad _ h1 fun h=>h1 (h.1 f (List.mem_cons_self ..)).1
theorem Ye(v:List Fct):Va v=0↔VwOk v:=by
 unfold Va
 by_cases h:1000<v.length
 ·rw[if_pos h];exact⟨fun h=>(by cases h),fun h2=>by have:=h2.len;omega⟩
 ·rw[if_neg h,Za1 v [] List.Pairwise.nil List.Pairwise.nil];exact⟨fun⟨a,b,c⟩=>⟨by omega,a,b,c⟩,fun h2=>⟨h2.chk,h2.dk,h2.srt⟩⟩
theorem Zex{l:List Fct}{k:Nat}{f:Fct}(h:l[k]?=some f):l.take (k+1)=l.take k++[f]:=by
 obtain⟨hk,rfl⟩:=List.getElem?_eq_some_iff.1 h
 rw[List.take_succ_eq_append_getElem hk]
end
section
abbrev Ky:=List UInt8
section
def XN(R:Ky->Ky->Bool)(p:List Ky)(x:Ky):List Ky->List (List Ky)×List Ky->List (List Ky)×List Ky
 |[],s=>s
 |c::cs,s=>if(R x c&& !s.2.contains c)=true then XN R p x cs (s.1++[p++[c]],c::s.2) else XN R p x cs s
def bfs(R:Ky->Ky->Bool)(codes:List Ky)(tg:Ky):Nat->List (List Ky)->List Ky->Option (List Ky)
 |0,_,_=>none
 |_+1,[],_=>none
 |n+1,p::ps,seen=>match p.getLast? with
  |none=>none
  |some x=>if x=tg then some p else bfs R codes tg n (XN R p x codes (ps,seen)).1 (XN R p x codes (ps,seen)).2
def Xz(R:Ky->Ky->Bool)(codes:List Ky)(x:Ky)(seen:List Ky):List Ky:=codes.filter fun c=>R x c&& !seen.contains c
variable {R:Ky->Ky->Bool} {codes seen:List Ky} {a x tg:Ky} {p:List Ky} {ps dn:List (List Ky)}
theorem JZ{c:Ky}:c∈Xz R codes x seen↔c∈codes/\R x c=true/\c ∉ seen:=by
 unfold Xz;rw[List.mem_filter];simp
theorem YT:∀{cs:List Ky} {ps:List (List Ky)} {seen:List Ky},cs.Nodup->XN R p x cs (ps,seen)=(ps++(Xz R cs x seen).map (fun c=>p++[c]),(Xz R cs x seen).reverse++seen)
 |[],ps,seen,_=>by simp[XN,Xz]
 |c::cs,ps,seen,h=>by
  rw[List.nodup_cons] at h;unfold XN
  by_cases hc:(R x c&& !seen.contains c)=true
  ·have h2:Xz R cs x (c::seen)=Xz R cs x seen:=by
    unfold Xz;refine List.filter_congr fun y hy=> ?_
    have:y≠c:=fun e=>h.1 (e▸hy)
    simp[this]
   have h3:Xz R (c::cs) x seen=c::Xz R cs x seen:=by unfold Xz;rw[List.filter_cons,if_pos hc]
   rw[if_pos (show(R x c&& !(ps,seen).2.contains c)=true from hc),YT h.2,h2,h3];simp
  ·have h3:Xz R (c::cs) x seen=Xz R cs x seen:=by unfold Xz;rw[List.filter_cons,if_neg hc]
   rw[if_neg (show ¬(R x c&& !(ps,seen).2.contains c)=true from hc),YT h.2,h3]
structure BI (R:Ky->Ky->Bool) (codes:List Ky) (a:Ky) (dn qu:List (List Ky)) (seen:List Ky):Prop where
 head:∀p∈dn++qu,p[0]?=some a
 edge:∀p∈dn++qu,∀i x y,p[i]?=some x->p[i+1]?=some y->R x y=true/\y∈codes
 pre:∀p∈dn++qu,∀k,0<k->k<p.length->p.take k∈dn
 lasts:(dn++qu).Pairwise fun p q=>p.getLast?≠q.getLast?
 seen:∀x,x∈seen↔∃p∈dn++qu,p.getLast?=some x
 srt:qu.Pairwise fun p q=>p.length<=q.length
 near:∀p,qu.head?=some p->∀q∈dn++qu,q.length<=p.length+1
 out:∀p∈dn,∀x y,p.getLast?=some x->R x y=true->y∈codes->∃q∈dn++qu,q.getLast?=some y/\q.length<=p.length+1
theorem BI.start:BI R codes a [] [[a]] [a] where
 head p hp:=by simp at hp;subst hp;rfl
 edge p hp i x y h1 h2:=by simp at hp;subst hp;simp at h2
 pre p hp k h1 h2:=by simp at hp;subst hp;simp at h2;omega
 lasts:=by simp
 seen x:=by simp[eq_comm]
 srt:=by simp
 near p hp q hq:=by simp at hp hq;subst hp;subst hq;omega
 out p hp:=by cases hp
theorem ZfI{p:List Ky}{c y:Ky}{i:Nat}(h:(p++[c])[i]?=some y):p[i]?=some y\/(i=p.length/\y=c):=by
 rw[List.getElem?_append] at h
 split at h
 ·exact .inl h
 ·rename_i h1
  have h2:=(List.getElem?_eq_some_iff.1 h).1;rw[List.length_singleton] at h2;have h3:i=p.length:=by omega
  subst h3;rw[Nat.sub_self,List.getElem?_cons_zero] at h;exact .inr ⟨rfl,(Option.some.inj h).symm⟩
theorem BI.step(h:BI R codes a dn (p::ps) seen)(hn:codes.Nodup)(hx:p.getLast?=some x):BI R codes a (dn++[p]) (ps++(Xz R codes x seen).map fun c=>p++[c]) ((Xz R codes x seen).reverse++seen):=by
 generalize hnw:Xz R codes x seen=nw;have hm:∀c,c∈nw↔c∈codes/\R x c=true/\c ∉ seen:=fun c=>by rw[<-hnw];exact JZ
 have hnd:nw.Nodup:=by rw[<-hnw];exact hn.filter _
 have hp:p∈dn++p::ps:=by simp
 have hall:∀q,q∈(dn++[p])++(ps++nw.map fun c=>p++[c])↔q∈dn++p::ps\/∃c∈nw,q=p++[c]:=fun q=>by
  simp only[List.mem_append,List.mem_cons,List.not_mem_nil,or_false,List.mem_map,or_assoc]
  constructor
  ·rintro(h|h|h|⟨c,h1,h2⟩)
   ·exact .inl h
   ·exact .inr (.inl h)
   ·exact .inr (.inr (.inl h))
   ·exact .inr (.inr (.inr ⟨c,h1,h2.symm⟩))
  ·rintro(h|h|h|⟨c,h1,h2⟩)
   ·exact .inl h
   ·exact .inr (.inl h)
   ·exact .inr (.inr (.inl h))
   ·exact .inr (.inr (.inr ⟨c,h1,h2.symm⟩))
 have hpl:∀q∈ps,p.length<=q.length:=(List.pairwise_cons.1 h.srt).1;have hps:ps.Pairwise fun p q=>p.length<=q.length:=(List.pairwise_cons.1 h.srt).2
 have hnear:=h.near p rfl;have hp0:=h.head p hp;have hpn:0<p.length:=(List.getElem?_eq_some_iff.1 hp0).1;have hlp:p[p.length-1]?=some x:=by rw[<-List.getLast?_eq_getElem?];exact hx
 refine⟨fun q hq=> ?_,fun q hq i y z h1 h2=> ?_,fun q hq k h1 h2=> ?_,?_,fun y=> ?_,?_,fun q hq r hr=> ?_,fun q hq y z h1 h2 h3=> ?_⟩
 ·rcases(hall q).1 hq with hq|⟨c,_,rfl⟩
  ·exact h.head q hq
  ·rw[List.getElem?_append_left hpn];exact hp0
 ·rcases(hall q).1 hq with hq|⟨c,hc,rfl⟩
  ·exact h.edge q hq i y z h1 h2
  ·rcases ZfI h2 with h2|⟨e,rfl⟩
   ·have:i+1<p.length:=(List.getElem?_eq_some_iff.1 h2).1
    rw[List.getElem?_append_left (by omega)] at h1;exact h.edge p hp i y z h1 h2
   ·rw[List.getElem?_append_left (by omega),show i=p.length-1 by omega,hlp] at h1;obtain rfl:=Option.some.inj h1;exact⟨((hm z).1 hc).2.1,((hm z).1 hc).1⟩
 ·rcases(hall q).1 hq with hq|⟨c,_,rfl⟩
  ·exact List.mem_append_left _ (h.pre q hq k h1 h2)
  ·rw[List.length_append,List.length_singleton] at h2
   by_cases hk:k=p.length
   ·subst hk;rw[List.take_left];simp
   ·rw[List.take_append_of_le_length (by omega)];exact List.mem_append_left _ (h.pre p hp k h1 (by omega))
 ·rw[<-List.append_assoc,List.append_assoc dn,List.singleton_append,List.pairwise_append];refine⟨h.lasts,?_,fun q hq r hr=> ?_⟩
  ·rw[List.pairwise_map];refine hnd.imp fun {c d} hcd=> ?_
   rw[List.getLast?_concat,List.getLast?_concat];exact fun e=>hcd (Option.some.inj e)
  ·obtain⟨c,hc,rfl⟩:=List.mem_map.1 hr
   rw[List.getLast?_concat];exact fun e=>((hm c).1 hc).2.2 ((h.seen c).2 ⟨q,hq,e⟩)
 ·rw[List.mem_append,List.mem_reverse,h.seen]
  constructor
  ·rintro(hc|⟨q,hq,e⟩)
   ·exact⟨p++[y],(hall _).2 (.inr ⟨y,hc,rfl⟩),List.getLast?_concat ..⟩
   ·exact⟨q,(hall _).2 (.inl hq),e⟩
  ·rintro⟨q,hq,e⟩
   rcases(hall q).1 hq with hq|⟨c,hc,rfl⟩
   ·exact .inr ⟨q,hq,e⟩
   ·rw[List.getLast?_concat] at e;obtain rfl:=Option.some.inj e;exact .inl hc
 ·rw[List.pairwise_append];refine⟨hps,?_,fun q hq r hr=> ?_⟩
  ·rw[List.pairwise_map];exact hnd.imp fun {c d} _=>by simp
  ·obtain⟨c,hc,rfl⟩:=List.mem_map.1 hr
   have:=hnear q (by simp[hq])
   rw[List.length_append,List.length_singleton];omega
 ·have hq2:p.length<=q.length:=by
   cases ps with
   |nil=>
    rw[List.nil_append] at hq;obtain⟨c,_,rfl⟩:=List.mem_map.1 (List.mem_of_head? hq)
    simp
   |cons r rs=>
    simp only[List.cons_append,List.head?_cons,Option.some.injEq] at hq;subst hq;exact hpl _ (List.mem_cons_self ..)
  rcases(hall r).1 hr with hr|⟨c,_,rfl⟩
  ·have:=hnear r hr
   omega
  ·rw[List.length_append,List.length_singleton];omega
 ·rcases List.mem_append.1 hq with hq|hq
  ·obtain⟨r,hr,h4,h5⟩:=h.out q hq y z h1 h2 h3
   exact⟨r,(hall r).2 (.inl hr),h4,h5⟩
  ·obtain rfl:=List.mem_singleton.1 hq;rw[hx] at h1;obtain rfl:=Option.some.inj h1
   by_cases hz:z∈seen
   ·obtain⟨r,hr,h4⟩:=(h.seen z).1 hz
    exact⟨r,(hall r).2 (.inl hr),h4,hnear r hr⟩
   ·exact⟨q++[z],(hall _).2 (.inr ⟨z,(hm z).2 ⟨h3,h2,hz⟩,rfl⟩),List.getLast?_concat ..,by simp⟩
theorem Zdm{P:List Ky->Option Ky}:∀{l:List (List Ky)},(l.Pairwise fun p q=>P p≠P q)->∀{p q:List Ky},p∈l->q∈l->P p=P q->p=q
 |[],_,p,q,hp,_,_=>by cases hp
 |r::l,h,p,q,hp,hq,e=>by
  rw[List.pairwise_cons] at h
  rcases List.mem_cons.1 hp with h1|h1<;>rcases List.mem_cons.1 hq with h2|h2
  ·rw[h1,h2]
  ·rw[h1] at e;exact absurd e (h.1 q h2)
  ·rw[h2] at e;exact absurd e.symm (h.1 p h1)
  ·exact Zdm h.2 h1 h2 e
theorem Zaa(hn:codes.Nodup):∀{n:Nat} {dn qu:List (List Ky)} {seen:List Ky} {p:List Ky},BI R codes a dn qu seen->bfs R codes tg n qu seen=some p->
 p[0]?=some a/\p.getLast?=some tg/\(∀i x y,p[i]?=some x->p[i+1]?=some y->R x y=true/\y∈codes)/\(∀i k x y,i<k->p[i]?=some x->p[k]?=some y->x≠y/\(R x y=true->k=i+1))
 |0,_,_,_,_,_,h=>by cases h
 |n+1,dn,[],seen,p,_,h=>by cases h
 |n+1,dn,q::qs,seen,p,hI,h=>by
  have hq:q∈dn++q::qs:=by simp
  cases hx:q.getLast? with
  |none=>simp only[bfs,hx] at h;cases h
  |some x=>
   simp only[bfs,hx] at h
   by_cases hxt:x=tg
   ·rw[if_pos hxt] at h;obtain rfl:=Option.some.inj h;subst hxt;refine⟨hI.head q hq,hx,hI.edge q hq,fun i k y z hik hy hz=> ?_⟩;have hkl:k<q.length:=(List.getElem?_eq_some_iff.1 hz).1;have hi:q.take (i+1)∈dn:=hI.pre q hq (i+1) (by omega) (by omega)
    have hk:q.take (k+1)∈dn++q::qs:=by
     by_cases e:k+1=q.length
     ·rw[e,List.take_length];exact hq
     ·exact List.mem_append_left _ (hI.pre q hq (k+1) (by omega) (by omega))
    have li:(q.take (i+1)).getLast?=some y:=by
     rw[List.getLast?_take,if_neg (by omega),Nat.add_sub_cancel,hy];rfl
    have lk:(q.take (k+1)).getLast?=some z:=by
     rw[List.getLast?_take,if_neg (by omega),Nat.add_sub_cancel,hz];rfl
    constructor
    ·rintro rfl;have e:=Zdm hI.lasts (List.mem_append_left _ hi) hk (li.trans lk.symm);have e2:=congrArg List.length e;rw[List.length_take,List.length_take] at e2;omega
    ·intro hr
     have hc:z∈codes:=by
      have h1:=hI.edge q hq (k-1) _ z (List.getElem?_eq_getElem (by omega)) (by rw[Nat.sub_add_cancel (by omega)];exact hz);exact h1.2
     obtain⟨r,hr1,hr2,hr3⟩:=hI.out _ hi y z li hr hc
     have e:=Zdm hI.lasts hr1 hk (hr2.trans lk.symm);rw[e,List.length_take,List.length_take] at hr3;omega
   ·rw[if_neg hxt,YT hn] at h;exact Zaa hn (hI.step hn hx) h
theorem Zcr:∀{l:List Ky} {P Q:Ky->Bool},(∀x,Q x=true->P x=true)->(l.filter fun x=>P x&& !Q x).length+(l.filter Q).length=(l.filter P).length
 |[],_,_,_=>rfl
 |x::l,P,Q,h=>by
  have ih:=Zcr (l:=l) h;have:=h x
  cases hp:P x<;>cases hq:Q x<;>simp_all<;>omega
theorem ZbD:(codes.filter fun c=> !((Xz R codes x seen).reverse++seen).contains c).length+(Xz R codes x seen).length=(codes.filter fun c=> !seen.contains c).length:=by
 rw[<-Zcr (l:=codes) (P:=fun c=> !seen.contains c) (Q:=fun c=>R x c&& !seen.contains c) (fun c h=>by simp at h ⊢; exact h.2)]
 congr 2
 refine List.filter_congr fun c hc=> ?_
 have h1:c∈Xz R codes x seen↔c∈codes/\R x c=true/\c ∉ seen:=JZ
 by_cases hs:c∈seen
 ·simp[hs]
 ·by_cases hr:R x c=true
  ·have:=h1.2 ⟨hc,hr,hs⟩
   simp[this,hs,hr]
  ·have:c ∉ Xz R codes x seen:=fun h=>hr (h1.1 h).2.1
   simp[this,hs,hr]
theorem Zcs(hn:codes.Nodup):∀{n:Nat} {qu:List (List Ky)} {seen:List Ky},(∀p∈qu,∃x,p.getLast?=some x/\x∈seen)->qu.length+(codes.filter fun c=> !seen.contains c).length<=n->(∃p∈qu,p.getLast?=some tg)->(bfs R codes tg n qu seen).isSome=true
 |0,qu,seen,_,hl,⟨p,hp,_⟩=>by
  have:=List.length_pos_of_mem hp
  omega
 |n+1,[],seen,_,_,⟨p,hp,_⟩=>by cases hp
 |n+1,q::qs,seen,hs,hl,⟨p,hp,hpt⟩=>by
  obtain⟨x,hx,_⟩:=hs q (List.mem_cons_self ..)
  simp only[bfs,hx]
  by_cases hxt:x=tg
  ·rw[if_pos hxt];rfl
  ·rw[if_neg hxt,YT hn];refine Zcs hn (fun r hr=> ?_) ?_ ?_
   ·rcases List.mem_append.1 hr with hr|hr
    ·obtain⟨y,h1,h2⟩:=hs r (List.mem_cons_of_mem _ hr)
     exact⟨y,h1,List.mem_append_right _ h2⟩
    ·obtain⟨c,hc,rfl⟩:=List.mem_map.1 hr
     exact⟨c,List.getLast?_concat ..,List.mem_append_left _ (List.mem_reverse.2 hc)⟩
   ·have h1:=ZbD (R:=R) (codes:=codes) (seen:=seen) (x:=x);rw[List.length_cons] at hl;rw[List.length_append,List.length_map]
    dsimp only
    omega
   ·rcases List.mem_cons.1 hp with rfl|hp
    ·rw[hx] at hpt;exact absurd (Option.some.inj hpt) hxt
    ·exact⟨p,List.mem_append_left _ hp,hpt⟩
end
end
section
open Go
theorem Zac(s t:List UInt8):∀l,t∈VW s l↔t=s\/t∈l
 |[]=>by simp[VW]
 |x::l=>by
  unfold VW
  by_cases h1:Op.bytesLess s x=true
  ·rw[if_pos h1];simp
  ·rw[if_neg h1]
   by_cases h2:Op.bytesLess x s=true
   ·rw[if_pos h2,List.mem_cons,Zac s t l,List.mem_cons]
    constructor
    ·rintro(h|h|h)
     ·exact .inr (.inl h)
     ·exact .inl h
     ·exact .inr (.inr h)
    ·rintro(h|h|h)
     ·exact .inr (.inl h)
     ·exact .inl h
     ·exact .inr (.inr h)
   ·rw[if_neg h2]
    have hsx:s=x:=by
     rcases JD s x with h|h|h
     ·exact absurd ((blt s x).2 h) h1
     ·exact h
     ·exact absurd ((blt x s).2 h) h2
    subst hsx
    constructor
    ·intro h;exact .inr h
    ·rintro(rfl|h)
     ·exact List.mem_cons_self ..
     ·exact h
theorem Vz(t:List UInt8):∀l,t∈Vp l↔t∈l
 |[]=>by simp[Vp]
 |s::l=>by unfold Vp;rw[Zac,Vz t l,List.mem_cons]
theorem Zcu(s:List UInt8):∀{l:List (List UInt8)},l.Pairwise (·< ·)->(VW s l).Pairwise (·< ·)
 |[],_=>by simp[VW]
 |x::l,h=>by
  rw[List.pairwise_cons] at h;unfold VW
  by_cases h1:Op.bytesLess s x=true
  ·rw[if_pos h1];have h1:=(blt s x).1 h1;refine List.pairwise_cons.2 ⟨fun g hg=> ?_,List.pairwise_cons.2 h⟩
   rcases List.mem_cons.1 hg with rfl|hg
   ·exact h1
   ·exact List.lt_trans h1 (h.1 g hg)
  ·rw[if_neg h1]
   by_cases h2:Op.bytesLess x s=true
   ·rw[if_pos h2];refine List.pairwise_cons.2 ⟨fun g hg=> ?_,Zcu s h.2⟩
    rcases(Zac s g l).1 hg with rfl|hg
    ·exact(blt _ _).1 h2
    ·exact h.1 g hg
   ·rw[if_neg h2];exact List.pairwise_cons.2 h
theorem VA:∀(l:List (List UInt8)),(Vp l).Pairwise (·< ·)
 |[]=>List.Pairwise.nil
 |s::l=>Zcu s (VA l)
theorem Zad{a b:List (List UInt8)}(h:b.Pairwise (·< ·))(hm:∀k,k∈b↔k∈a):b=Vp a:=
 ZfH (fun x=>List.lt_irrefl x) (fun _ _ _=>List.lt_trans) h (VA a) fun k=>by rw[hm,Vz]
section
variable {a b:List Fct}
end
end
section
open Go
theorem ZfQ{a b:List UInt8}:a<=b↔a<b\/a=b:=by
 constructor
 ·intro h
  rcases JD a b with h1|h1|h1
  ·exact .inl h1
  ·exact .inr h1
  ·exact absurd h1 h
 ·rintro(h|rfl)
  ·exact fun h2=>List.lt_irrefl a (List.lt_trans h h2)
  ·exact List.lt_irrefl a
theorem Zdo{a b c:List UInt8}(h:a<=b)(k:b<=c):a<=c:=by
 rw[ZfQ] at*
 rcases h with h|rfl
 ·rcases k with k|rfl
  ·exact .inl (List.lt_trans h k)
  ·exact .inl h
 ·exact k
def Xg(xs:List (List UInt8)):List (List UInt8):=xs.mergeSort fun x y=>decide (x<=y)
theorem YV(xs:List (List UInt8)):(Xg xs).length=xs.length:=List.length_mergeSort xs
theorem ZbJ(zs:List (List UInt8)):(Lib.compact zs).length<=zs.length:=by
 unfold Lib.compact Lib.compactUpTo;rw[List.length_map];exact Nat.le_trans (List.length_filter_le _ _) (by simp)
theorem ZaE(d:Array (List UInt8))(hs:∀i j,i<=j->j<d.size->d[i]! <=d[j]!)(m:Nat)(hm:m<=d.size):
 (Lib.compactUpTo d m).Pairwise (·< ·)/\(∀x,x∈Lib.compactUpTo d m↔∃j,j<m/\d[j]! =x):=by
 induction m with
 |zero=>exact⟨by unfold Lib.compactUpTo;simp,fun x=>by unfold Lib.compactUpTo;simp⟩
 |succ m ih=>
  obtain⟨h1,h2⟩:=ih (by omega)
  rw[Lib.compactUpTo_succ]
  by_cases hk:Lib.keeps d m=true
  ·rw[if_pos hk];refine⟨?_,fun x=> ?_⟩
   ·rw[List.pairwise_append];refine⟨h1,by simp,fun x hx y hy=> ?_⟩;simp at hy;subst hy;obtain⟨j,hj,rfl⟩:=(h2 x).1 hx
    unfold Lib.keeps at hk;simp only[decide_eq_true_eq] at hk;have h3:=hs j (m-1) (by omega) (by omega);have h4:=hs (m-1) m (by omega) (by omega)
    rcases hk with hk|hk
    ·omega
    ·rcases ZfQ.1 h4 with h4|h4
     ·rcases ZfQ.1 h3 with h3|h3
      ·exact List.lt_trans h3 h4
      ·rw[h3];exact h4
     ·exact absurd h4.symm hk
   ·rw[List.mem_append,h2];simp only[List.mem_singleton]
    constructor
    ·rintro(⟨j,hj,rfl⟩|rfl)
     ·exact⟨j,by omega,rfl⟩
     ·exact⟨m,by omega,rfl⟩
    ·rintro⟨j,hj,rfl⟩
     by_cases e:j=m
     ·subst e;exact .inr rfl
     ·exact .inl ⟨j,by omega,rfl⟩
  ·rw[if_neg hk,List.append_nil];refine⟨h1,fun x=> ?_⟩;rw[h2];unfold Lib.keeps at hk;simp only[decide_eq_true_eq,not_or,ne_eq,Decidable.not_not] at hk
   constructor
   ·rintro⟨j,hj,rfl⟩;exact⟨j,by omega,rfl⟩
   ·rintro⟨j,hj,rfl⟩
    by_cases e:j=m
    ·subst e;exact⟨j-1,by omega,hk.2.symm⟩
    ·exact⟨j,by omega,rfl⟩
theorem Zhr(xs:List (List UInt8)):Lib.compact (Xg xs)=Vp xs:=by
 have hsorted:(Xg xs).Pairwise (fun a b=>a<=b):=by
  have:=List.pairwise_mergeSort (le:=fun x y:List UInt8=>decide (x<=y)) (fun a b c h k=>by rw[decide_eq_true_eq] at *; exact Zdo h k) (fun a b=>by
   rw[Bool.or_eq_true,decide_eq_true_eq,decide_eq_true_eq,ZfQ,ZfQ]
   rcases JD a b with h|h|h
   ·exact .inl (.inl h)
   ·exact .inl (.inr h)
   ·exact .inr (.inl h)) xs
  exact this.imp (by simp)
 have hget:∀i,(h:i<(Xg xs).length)->(Xg xs).toArray[i]! =(Xg xs)[i]:=fun i hi=>by simp[hi]
 have hs:∀i j,i<=j->j<(Xg xs).toArray.size->(Xg xs).toArray[i]! <=(Xg xs).toArray[j]! :=by
  intro i j hij hj;have hj':j<(Xg xs).length:=by simpa using hj
  rw[hget i (by omega),hget j hj']
  rcases Nat.lt_or_ge i j with h|h
  ·exact List.pairwise_iff_getElem.1 hsorted i j (by omega) hj' h
  ·have:i=j:=by omega
   subst this;exact List.lt_irrefl _
 obtain⟨h1,h2⟩:=ZaE (Xg xs).toArray hs (Xg xs).length (by simp)
 refine Zad h1 fun x=> ?_
 show x∈Lib.compactUpTo _ _↔_
 rw[h2];have hp:x∈Xg xs↔x∈xs:=(List.mergeSort_perm xs _).mem_iff;rw[<-hp,List.mem_iff_getElem]
 constructor
 ·rintro⟨j,hj,rfl⟩;exact⟨j,hj,(hget j hj).symm⟩
 ·rintro⟨j,hj,rfl⟩;exact⟨j,hj,hget j hj⟩
end
section
open Go
theorem ZcL(s:List UInt8):∀l,(VW s l).length<=l.length+1
 |[]=>Nat.le_refl _
 |t::ts=>by
  have ih:=ZcL s ts;unfold VW
  split
  ·simp
  ·split
   ·simp;omega
   ·simp
theorem ZcM:∀l,(Vp l).length<=l.length
 |[]=>Nat.le_refl _
 |s::ss=>by
  have ih:=ZcM ss;have h:=ZcL s (Vp ss);unfold Vp;rw[List.length_cons];omega
section
variable {a b:List Fct}
end
end
section
def ZbW(b:UInt8):Bool:=decide (65<=b.toNat)&&decide (b.toNat<=90)
theorem Zbf(s:List UInt8):Qp s=(s.length==3&&s.all ZbW):=rfl
theorem ZeU{s:List UInt8}{k:Nat}{b:UInt8}(h:s[k]?=some b)(hb:ZbW b=false):Qp s=false:=by
 rw[Zbf,Bool.and_eq_false_iff];exact .inr (List.all_eq_false.2 ⟨b,List.mem_of_getElem? h,by simp[hb]⟩)
theorem ZgA{s:List UInt8}{k:Nat}{b:UInt8}(h:s[k]?=some b)(ha:(s.take k).all ZbW=true)(hb:ZbW b=true):(s.take (k+1)).all ZbW=true:=by
 obtain⟨hk,rfl⟩:=List.getElem?_eq_some_iff.1 h
 rw[List.take_succ_eq_append_getElem hk,List.all_append,ha,Bool.true_and];simp[hb]
theorem ZgB(b:UInt8):ZbW b=true↔65<=b.toNat/\b.toNat<=90:=by unfold ZbW;simp
end
end Go.Proofs.YtokjnjdbnabchaaGreatDoor
