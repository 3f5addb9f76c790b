/- D0, A0, W0, Dv, Lp1, Lp2, Lp3, Lt0, Fk0, Vw0, Vw1, Vw2, Ex1, Vw3, Vsp, Vdp, CapB. -/
import Derived.Test.YtokjnjdbnabchaaGreatDoorQGEo1
import Derived.Lib.AtoiAllCases
import Derived.Lib.IndexLaws
import Derived.Lib.SlicesCompact
namespace Go.Proofs.YtokjnjdbnabchaaGreatDoor
section
open Go.RowKit Go.Shelf
def flo(q:Rat):Int:=q.num.fdiv q.den
def Vf(q:Rat):Int:=q.num.fmod q.den
theorem ZgK(q:Rat):q.den*flo q+Vf q=q.num:=by
 unfold flo Vf;exact Int.mul_fdiv_add_fmod _ _
theorem YZ(q:Rat):0<=Vf q/\Vf q<q.den:=by
 unfold Vf;have h:(0:Int)<q.den:=by have:=q.den_pos;omega
 exact⟨Int.fmod_nonneg_of_pos _ h,Int.fmod_lt_of_pos _ h⟩
def rnd(q:Rat):Int:=if(q.den:Int)<2*Vf q\/(2*Vf q=q.den/\(flo q).fmod 2≠0) then flo q+1 else flo q
theorem Zh0(q:Rat):(flo q).natAbs<=q.num.natAbs+1:=by
 have h1:=ZgK q;obtain⟨h2,h3⟩:=YZ q
 have h4:(1:Int)<=q.den:=by have:=q.den_pos;omega
 generalize flo q=f at*;generalize Vf q=r at*;generalize (q.den:Int)=d at*;generalize q.num=n at*
 rcases Int.le_total 0 f with h|h
 ·have:1*f<=d*f:=Int.mul_le_mul_of_nonneg_right h4 h
  omega
 ·have:d*f<=1*f:=Int.mul_le_mul_of_nonpos_right h4 h
  have:f<0->d*(f+1)<=1*(f+1):=fun h5=>Int.mul_le_mul_of_nonpos_right h4 (by omega)
  rw[Int.mul_add] at this;omega
end
section
open Go.RowKit Go.Shelf
theorem ZbO(l m:List Int):(l++m).sum=l.sum+m.sum:=by
 induction l with
 |nil=>simp
 |cons a l ih=>simp only[List.cons_append,List.sum_cons,ih];omega
end
section
open Go.RowKit Go.Shelf
def Zd8(ws:List (List UInt8)):Int:=(ws.map val).sum
theorem ZeY{ws:List (List UInt8)}{L:Nat}(h:∀x∈ws,x.length<=L):(Zd8 ws).natAbs<=ws.length*10^L:=by
 unfold Zd8
 induction ws with
 |nil=>simp
 |cons a l ih=>
  have h1:=ih (fun x hx=>h x (by simp[hx]));have h2:=QV (h a (by simp));simp only[List.map_cons,List.sum_cons,List.length_cons,Nat.succ_mul];omega
theorem ZeZ{ws:List (List UInt8)}{L:Nat}(h:∀x∈ws,x.length<=L)(hn:ws.length<=9999):(Qb (Zd8 ws)).length<=L+5:=by
 refine Qk (L:=L+4) ?_;have h1:=ZeY h;have h2:ws.length*10^L<10^4*10^L:=Nat.mul_lt_mul_of_pos_right (by omega) (Nat.pow_pos (by omega));rw[Nat.pow_add,Nat.mul_comm (10^L)];omega
end
section
open Go.RowKit
theorem ZcK(n:Int):Rat.divInt n 1=(n:Rat):=by
 have:=Rat.num_divInt_den (n:Rat)
 simpa using this
end
section
open Go.RowKit Go.Shelf
structure Mp where
 cause:List UInt8
 day:Int
 inst:List UInt8
 other:List UInt8
 ratio:Fr
 share:Fr
 price:Fr
 keep:Bool
deriving DecidableEq
structure Mp.Ok (m:Mp):Prop where
 cause:Qu m.cause=true
 inst:Qu m.inst=true
 other:Qu m.other=true
 day:ZhY m.day=true
 ratio:m.ratio.ok
 share:m.share.ok
 price:m.price.ok
 r0:0<m.ratio.rat
 s0:0<=m.share.rat
 s1:m.share.rat<=1
 p0:0<=m.price.rat
 keep:m.keep=true->m.other≠m.inst
 all:m.keep=false->m.share.rat=1
structure Plan where
 exact:Rat
 parts:Int
 part:Rat
 moved:Int
 taken:Int
 cash:Int
 n:List Int
 m:List Int
 f:List Int
 p:List Int
end
section
open Go.RowKit Go.Shelf
def Plan.mv(x:Plan)(i:Nat):Int:=x.m.getD i 0-x.f.getD i 0
def Plan.rest(x:Plan)(i:Nat):Int:=(((List.range i).filter fun k=>decide (x.n.getD k 0=0)).map x.mv).sum
structure Gain where
 cause:List UInt8
 lot:List UInt8
 inst:List UInt8
 acq:Int
 closed:Int
 q:List UInt8
 proceeds:List UInt8
 cost:List UInt8
 deferred:List UInt8
 replaced:List UInt8
deriving DecidableEq
structure Stp where
 cause:List UInt8
 src:List UInt8
 dst:List UInt8
 q:List UInt8
 made:List UInt8
 cost:List UInt8
deriving DecidableEq
structure Res where
 lots:List Lot
 gains:List Gain
 steps:List Stp
def Res.none:Res:=⟨[],[],[]⟩
theorem Ze0(a:List UInt8):leS a a=true:=by unfold leS;simp
structure CutAt (i:List UInt8) (A B:List Lot):Prop where
 b:∀y∈B,leS y.inst i=false
 a:A=[]\/∃A' y,A=A'++[y]/\leS y.inst i=true
theorem CutAt.at_{i:List UInt8}{A B:List Lot}(h:CutAt i A B):Zdw (A++B) i=A.length:=by
 unfold Zdw
 have e:((A++B).reverse.takeWhile (fun y=> !leS y.inst i))=B.reverse:=by
  rw[List.reverse_append,List.takeWhile_append_of_pos (fun y hy=>by simp[h.b y (by simpa using hy)])]
  have e2:A.reverse.takeWhile (fun y=> !leS y.inst i)=[]:=by
   rcases h.a with rfl|⟨A',y,rfl,hy⟩
   ·rfl
   ·rw[List.reverse_append];simp[hy]
  rw[e2,List.append_nil]
 rw[e];simp
theorem CutAt.put{A B:List Lot}{x:Lot}(h:CutAt x.inst A B):ZiC (A++B) x=A++x::B:=by
 unfold ZiC;rw[h.at_,List.take_left,List.drop_left]
theorem CutAt.next{A B:List Lot}{x:Lot}(h:CutAt x.inst A B):CutAt x.inst (A++[x]) B:=⟨h.b,.inr ⟨A,x,rfl,Ze0 _⟩⟩
theorem LotsOk.put{l:List Lot}{x:Lot}(h:LotsOk l)(hx:x.Ok)(hid:x.id ∉ l.map (·.id))(hl:l.length<1000){A B:List Lot}(e:l=A++B):LotsOk (A++x::B):=by
 subst e;have hp:(A++x::B).Perm (x::(A++B)):=List.perm_middle;refine⟨?_,?_,?_⟩
 ·rw[hp.length_eq];simp at hl ⊢; omega
 ·intro y hy
  rcases List.mem_cons.1 (hp.mem_iff.1 hy) with rfl|hy
  ·exact hx
  ·exact h.ok y hy
 ·rw[(hp.map (·.id)).nodup_iff,List.map_cons,List.nodup_cons];exact⟨hid,h.ids⟩
end
section
open Go.RowKit Go.Shelf
end
section
open Go.RowKit Go.Shelf
theorem Zd9(l:List UInt8)(h:l.all Qx=true):∀acc:Nat,acc*10^l.length+Qg l<1000000000000000000->Lib.parseUint10 acc l=.ok (acc*10^l.length+Qg l):=by
 induction l with
 |nil=>intro acc _;simp[Lib.parseUint10,Qg]
 |cons b l ih=>
  intro acc hb;simp only[List.all_cons,Bool.and_eq_true] at h;have h1:=(Xi b).1 h.1
  have e:Qg (b::l)=(b.toNat-48)*10^l.length+Qg l:=by
   have:=Yn [b] l
   simpa[Qg] using this
  rw[e,List.length_cons,Nat.pow_succ] at hb ⊢;have hp:1<=10^l.length:=Nat.pow_pos (by omega)
  have e2:acc*(10^l.length*10)+((b.toNat-48)*10^l.length+Qg l)=(acc*10+(b.toNat-48))*10^l.length+Qg l:=by
   rw[Nat.add_mul,Nat.mul_assoc,Nat.mul_comm 10,Nat.add_assoc]
  rw[e2] at hb ⊢;have h3:acc*10+(b.toNat-48)<=(acc*10+(b.toNat-48))*10^l.length:=Nat.le_mul_of_pos_right _ hp;unfold Lib.parseUint10;rw[if_pos (by omega),if_neg (by omega),if_neg (by omega)];exact ih h.2 _ hb
theorem Ze1{l:List UInt8}(h:l.all Qx=true)(hn:l≠[])(h4:l.length<=17):Lib.atoiAll l=.ok (Qg l:Int):=by
 cases l with
 |nil=>exact absurd rfl hn
 |cons b t=>
  have hb:=h;simp only[List.all_cons,Bool.and_eq_true] at hb;have h1:=(Xi b).1 hb.1;rw[Lib.atoiAll_plain b t (by omega) (by omega)];unfold Lib.parseMag;rw[if_neg (by simp)];have hv:=Vi h;have hp:10^(b::t).length<=10^17:=Nat.pow_le_pow_right (by omega) h4;rw[Zd9 _ h 0 (by omega)];simp only[Nat.zero_mul,Nat.zero_add];unfold Lib.signless;simp only;rw[if_neg (by omega)]
theorem Zea{k:Nat}(h1:1<=k)(h2:k<=9999):ZbN (QD k)=true:=by
 unfold ZbN;obtain⟨b,l,e,hb,_⟩:=Vx k (by omega)
 have h3:=VU (m:=k) (L:=4) (by omega);have h4:=ZeR k (by omega)
 have h5:(some b:Option UInt8)≠some 48:=fun e2=>by
  injection e2 with e2;subst e2;exact absurd hb (by decide)
 rw[Jy,decide_eq_true h3,decide_eq_true h4,e,List.head?_cons,decide_eq_true h5];rfl
theorem Zeb(l:List UInt8):ZbN l=match Lib.atoiAll l with| .ok v=>decide (1<=v)&&(decide (v<=9999)&&(Lib.itoa v==l))|_=>false:=by
 by_cases h:ZbN l=true
 ·have h':=h;unfold ZbN at h';simp only[Bool.and_eq_true,decide_eq_true_eq] at h';obtain⟨⟨⟨a1,a2⟩,a3⟩,a4⟩:=h'
  have hne:l≠[]:=fun e=>by rw[e] at a1;simp at a1
  rw[h,Ze1 a4 hne (by omega)]
  have hd:QD (Qg l)=l:=VA a4 (fun b t e=>by
   rw[e] at a3;simp only[List.head?_cons,ne_eq,Option.some.injEq] at a3;simpa using a3)
  have hv:Qg l<10^4:=Nat.lt_of_lt_of_le (Vi a4) (Nat.pow_le_pow_right (by omega) a2);have h0:Qg l≠0:=fun e=>by rw[e] at hd;exact hne hd.symm
  have hi:Lib.itoa (Qg l:Int)=l:=by
   unfold Lib.itoa;rw[if_neg (by omega)]
   conv=>rhs;rw[<-hd]
   unfold QD;rw[if_neg h0];simp
  simp only[hi,beq_self_eq_true,Bool.and_true];rw[decide_eq_true (show(1:Int)<=(Qg l:Int) by omega),decide_eq_true (show(Qg l:Int)<=9999 by omega)];rfl
 ·have hf:ZbN l=false:=by simpa using h
  rw[hf]
  rcases ha:Lib.atoiAll l with v|_|_
  ·simp only
   cases h1:decide (1<=v) with
   |false=>rfl
   |true=>
    cases h2:decide (v<=9999) with
    |false=>rfl
    |true=>
     cases h3:Lib.itoa v==l with
     |false=>rfl
     |true=>
      exfalso
      apply h
      have h3:=eq_of_beq h3;simp only[decide_eq_true_eq] at h1 h2;rw[<-h3];unfold Lib.itoa;rw[if_neg (by omega)];have:=Zea (k:=v.toNat) (by omega) (by omega)
      unfold QD at this;rw[if_neg (by omega)] at this;simpa using this
  ·rfl
  ·rfl
def XG(s:List UInt8):List UInt8:=s.takeWhile (·!=47)
def Va(s:List UInt8):List UInt8:=(s.dropWhile (·!=47)).drop 1
theorem Zaw(s:List UInt8):(47∈s->Lib.indexByte s 47=((XG s).length:Nat)/\(XG s).length<s.length/\s.take (XG s).length=XG s/\s.drop ((XG s).length+1)=Va s)/\(47 ∉ s->Lib.indexByte s 47= -1/\XG s=s/\Va s=[]):=by
 induction s with
 |nil=>exact⟨fun h=>by simp at h,fun _=>⟨rfl,rfl,rfl⟩⟩
 |cons b l ih=>
  by_cases hb:b=47
  ·subst hb;refine⟨fun _=> ?_,fun h=>absurd (List.mem_cons_self) h⟩;refine⟨rfl,by simp[XG],by simp[XG],?_⟩;simp[XG,Va]
  ·have e1:XG (b::l)=b::XG l:=by unfold XG;rw[List.takeWhile_cons];simp[hb]
   have e2:Va (b::l)=Va l:=by unfold Va;rw[List.dropWhile_cons];simp[hb]
   have hbb:(b==47)=false:=by simpa using hb
   constructor
   ·intro h
    have hl:47∈l:=by
     rcases List.mem_cons.1 h with e|h
     ·exact absurd e.symm hb
     ·exact h
    obtain⟨a1,a2,a3,a4⟩:=ih.1 hl
    refine⟨?_,?_,?_,?_⟩
    ·rw[Lib.indexByte,hbb,a1,e1];simp only[Bool.false_eq_true,if_false];rw[if_neg (by simp)];simp
    ·rw[e1];simp;omega
    ·rw[e1];simp[a3]
    ·rw[e1,e2];simpa using a4
   ·intro h;have hl:47 ∉ l:=fun hm=>h (List.mem_cons_of_mem b hm)
    obtain⟨a1,a2,a3⟩:=ih.2 hl
    refine⟨?_,by rw[e1,a2],by rw[e2,a3]⟩;rw[Lib.indexByte,hbb,a1];rfl
theorem Zh1(s:List UInt8):idB s=(ZbN (Va s)&&Qu (XG s)):=by
 unfold idB
 by_cases h:47∈s
 ·rw[decide_eq_true h,Bool.true_and,Bool.and_comm];rfl
 ·rw[decide_eq_false h];have e:Va s=[]:=((Zaw s).2 h).2.2;rw[e];rfl
end
section
structure Pk where
 lot:List UInt8
 q:List UInt8
deriving DecidableEq
structure Opn where
 other:List UInt8
 ratio:Fr
 price:Fr
 value:Fr
deriving DecidableEq
structure Fct where
 key:List UInt8
 stamp:Int
 cancelled:Bool
 day:Int
 kind:Int
 inst:List UInt8
 other:List UInt8
 cur:List UInt8
 target:List UInt8
 q:List UInt8
 amount:List UInt8
 fee:List UInt8
 price:Fr
 ratio:Fr
 share:Fr
 picks:List Pk
 options:List Opn
 choice:Int
deriving DecidableEq
structure KRow where
 cls:Int
 nums:List (Nat×Bool×Bool)
 more:List Nat
 code:Bool
def Xt(k:Int):Option KRow:=
 match k with
 |1|2|6|17|18=>some ⟨2,[(5,true,false)],[2],false⟩
 |3=>some ⟨3,[(4,true,false),(5,false,false),(6,false,false)],[0],false⟩
 |4=>some ⟨3,[(4,true,false),(5,false,false),(6,false,false)],[0,10],false⟩
 |5=>some ⟨1,[(7,true,false)],[0],false⟩
 |7=>some ⟨2,[(4,true,false),(5,true,false)],[1,2],true⟩
 |8=>some ⟨1,[(7,false,false),(8,true,false)],[0],false⟩
 |9=>some ⟨1,[(7,false,false),(8,true,false),(9,false,true)],[0,1],false⟩
 |10=>some ⟨1,[],[0,11],false⟩
 |11=>some ⟨4,[],[0,3,12],false⟩
 |12=>some ⟨3,[(4,true,false),(7,false,false),(8,true,false)],[0,1],false⟩
 |13=>some ⟨1,[(7,true,false)],[0],false⟩
 |14=>some ⟨1,[(7,false,false)],[0],false⟩
 |15=>some ⟨4,[(7,false,false)],[0],false⟩
 |16=>some ⟨4,[(8,true,false)],[1,2],true⟩
 |_=>none
def KRow.has(r:KRow)(i:Nat):Bool:=r.nums.any (fun x=>x.1==i)||r.more.contains i
def Qp(s:List UInt8):Bool:=s.length==3&&s.all fun b=>decide (65<=b.toNat)&&decide (b.toNat<=90)
def JA(a:List UInt8):Nat:=if a.head?=some 45 then a.length-1 else a.length
def Fct.num(f:Fct)(i:Nat):Fr:=
 match i with
 |4=>⟨f.q,[]⟩
 |5=>⟨f.amount,[]⟩
 |6=>⟨f.fee,[]⟩
 |7=>f.price
 |8=>f.ratio
 |9=>f.share
 |_=>⟨[],[]⟩
def Fct.none(f:Fct)(i:Nat):Bool:=
 match i with
 |0=>f.inst==[]
 |1=>f.other==[]
 |2=>f.cur==[]
 |3=>f.target==[]
 |10=>f.picks.isEmpty
 |11=>f.options.isEmpty
 |12=>f.choice==0
 |i=>decide (f.num i=⟨[],[]⟩)
def QQ(pos part:Bool)(f:Fr):Int:=
 if ¬f.ok then 1 else if 40<JA f.n\/40<JA f.d then 4 else if f.rat<0\/(pos=true/\f.rat=0)\/(part=true/\1<f.rat) then 2 else 0
def XN:List Pk->List Pk->Int->Int×Int
 |[],_,sum=>(0,sum)
 |p::ps,pre,sum=>
  if idB p.lot=false then(23,sum) else if pre.any (fun x=>x.lot==p.lot) then(5,sum)
  else if QQ true false ⟨p.q,[]⟩≠0 then(QQ true false ⟨p.q,[]⟩,sum) else XN ps (pre++[p]) (sum+val p.q)
def VD(f:Fct):Int:=
 if 64<f.picks.length then 4 else if(XN f.picks [] 0).1≠0 then(XN f.picks [] 0).1 else if val f.q<(XN f.picks [] 0).2 then 15 else 0
def VE(inst:List UInt8):List Opn->Int
 |[]=>0
 |o::os=>
  if o.other≠[]/\Qu o.other=false then 23 else if o.other=inst then 18
  else if QQ false false o.ratio≠0 then QQ false false o.ratio else if QQ false false o.price≠0 then QQ false false o.price else if QQ false false o.value≠0 then QQ false false o.value
  else if decide (o.other≠[])≠decide (o.ratio≠⟨[],[]⟩)\/(o.other=[]/\o.value≠⟨[],[]⟩) then 2 else VE inst os
def Zax(f:Fct):Int:=if f.options.length=0 then 11 else if 8<f.options.length then 4 else VE f.inst f.options
def XS(f:Fct)(r:KRow)(i:Nat):Int:=
 match i with
 |0=>if Qu f.inst=false then 23 else 0
 |1=>if r.code=true then(if Qp f.other=false then 12 else if f.other=f.cur then 18 else 0) else if Qu f.other=false then 23 else if f.other=f.inst then 18 else 0
 |2=>if Qp f.cur=false then 12 else 0
 |3=>if Qu f.target=false then 23 else 0
 |10=>VD f
 |11=>Zax f
 |12=>if f.choice<0 then 2 else 0
 |i=>match r.nums.find? (fun x=>x.1==i) with
  |some (_,pos,part)=>QQ pos part (f.num i)
  |none=>0
def Yo(f:Fct)(r:KRow)(i:Nat):Nat->Int
 |0=>0
 |n+1=>
  if r.has i=true then(if XS f r i≠0 then XS f r i else Yo f r (i+1) n)
  else if f.none i=false then 1 else Yo f r (i+1) n
def QK(f:Fct):Int:=
 if Qu f.key=false then 23 else if f.stamp<0 then 2
 else if f.cancelled=true then(if f=⟨f.key,f.stamp,true,0,0,[],[],[],[],[],[],[],⟨[],[]⟩,⟨[],[]⟩,⟨[],[]⟩,[],[],0⟩ then 0 else 1)
 else if f.day< -25567\/84005<f.day then 13
 else match Xt f.kind with
  |none=>7
  |some r=>Yo f r 0 13
end
section
open Go
def Zbk(s t:List UInt8):Int:=if Op.bytesLess s t=true then-1 else if Op.bytesLess t s=true then 1 else 0
def XH(a b:Int):Int:=if a<b then-1 else if b<a then 1 else 0
def QX(k:Int):Int:=match Xt k with
 |some r=>r.cls
 |none=>0
def Yw(f g:Fct):Int:=if XH f.day g.day≠0 then XH f.day g.day else if XH (QX f.kind) (QX g.kind)≠0 then XH (QX f.kind) (QX g.kind) else Zbk f.key g.key
def ZaJ(p:Option Fct)(f:Fct):Bool:=match p with
 |some g=>decide (0<=Yw g f)
 |none=>false
def Zfr(seen:List (List UInt8)):List Fct->List Fct
 |[]=>[]
 |f::fs=>if seen.contains f.key=true then Zfr seen fs else f::Zfr (f.key::seen) fs
def Zbl:List Fct->List Fct->Int
 |_,[]=>0
 |pre,f::fs=>
  if QK f≠0 then QK f else if f.cancelled=true then 19 else if f.stamp≠0 then 1 else if(pre.any fun g=>g.key==f.key)=true then 5
  else if ZaJ pre.getLast? f=true then 8 else Zbl (pre++[f]) fs
def Zbm(v:List Fct):Int:=if 1000<v.length then 4 else Zbl [] v
def ZiK(l:List Fct)(key:List UInt8):Option Fct:=l.reverse.find? fun f=>f.key==key
def Zi6(a b:List Fct):List Fct:=a.filter fun f=>decide (ZiK b f.key≠some f)
def VN(s:List UInt8):List (List UInt8)->List (List UInt8)
 |[]=>[s]
 |t::ts=>if Op.bytesLess s t=true then s::t::ts else if Op.bytesLess t s=true then t::VN s ts else t::ts
def Vd:List (List UInt8)->List (List UInt8)
 |[]=>[]
 |s::ss=>VN s (Vd ss)
end
section
open Go
theorem blt:∀(x y:List UInt8),(Op.bytesLess x y=true)↔x<y
 |[],[]=>by simp[Op.bytesLess]
 |[],_::_=>by simp[Op.bytesLess]
 |_::_,[]=>by simp[Op.bytesLess]
 |a::x,b::y=>by
  have ih:=blt x y;simp only[Op.bytesLess,List.cons_lt_cons_iff,Bool.or_eq_true,Bool.and_eq_true,decide_eq_true_eq,beq_iff_eq,ih]
theorem Jp(x y:List UInt8):x<y\/x=y\/y<x:=by
 rcases Decidable.em (x<y) with h|h
 ·exact .inl h
 ·rcases Decidable.em (y<x) with h2|h2
  ·exact .inr (.inr h2)
  ·exact .inr (.inl (List.le_antisymm (List.not_lt.1 h2) (List.not_lt.1 h)))
theorem Zfs{x y:List UInt8}(h:x<y):¬y<x:=fun h2=>List.lt_irrefl x (List.lt_trans h h2)
theorem Zg6(s t:List UInt8):Zbk s t<0↔s<t:=by
 unfold Zbk
 by_cases h:s<t
 ·rw[if_pos ((blt s t).2 h)];exact⟨fun _=>h,fun _=>by decide⟩
 ·rw[if_neg (fun e=>h ((blt s t).1 e))]
  split<;>exact⟨fun e=>absurd e (by decide),fun e=>absurd e h⟩
def bef(f g:Fct):Prop:=f.day<g.day\/(f.day=g.day/\(QX f.kind<QX g.kind\/(QX f.kind=QX g.kind/\f.key<g.key)))
theorem ZdE(a b:Int):XH a b<0↔a<b:=by unfold XH;split<;>(try split)<;>omega
theorem ZdF(a b:Int):XH a b=0↔a=b:=by unfold XH;split<;>(try split)<;>omega
theorem ZaK(f g:Fct):Yw f g<0↔bef f g:=by
 unfold Yw bef;have a1:=ZdE f.day g.day;have a3:=ZdF f.day g.day;have b1:=ZdE (QX f.kind) (QX g.kind);have b3:=ZdF (QX f.kind) (QX g.kind);have c1:=Zg6 f.key g.key
 by_cases h:XH f.day g.day=0
 ·rw[if_neg (by simpa using h)];have hd:=a3.1 h
  by_cases h2:XH (QX f.kind) (QX g.kind)=0
  ·rw[if_neg (by simpa using h2)];have hc:=b3.1 h2;rw[c1]
   constructor
   ·intro hk;exact .inr ⟨hd,.inr ⟨hc,hk⟩⟩
   ·rintro(h4|⟨_,h4|⟨_,h4⟩⟩)
    ·omega
    ·omega
    ·exact h4
  ·rw[if_pos h2,b1];have hc:=mt b3.2 h2
   constructor
   ·intro h4;exact .inr ⟨hd,.inl h4⟩
   ·rintro(h4|⟨_,h4|⟨h4,_⟩⟩)
    ·omega
    ·exact h4
    ·exact absurd h4 hc
 ·rw[if_pos h,a1];have hd:=mt a3.2 h
  constructor
  ·exact .inl
  ·rintro(h4|⟨h4,_⟩)
   ·exact h4
   ·exact absurd h4 hd
theorem Zei{f g h:Fct}(h1:bef f g)(h2:bef g h):bef f h:=by
 unfold bef at*
 rcases h1 with a|⟨a,b|⟨b,c⟩⟩<;>rcases h2 with d|⟨d,e|⟨e,k⟩⟩
 ·exact .inl (by omega)
 ·exact .inl (by omega)
 ·exact .inl (by omega)
 ·exact .inl (by omega)
 ·exact .inr ⟨by omega,.inl (by omega)⟩
 ·exact .inr ⟨by omega,.inl (by omega)⟩
 ·exact .inl (by omega)
 ·exact .inr ⟨by omega,.inl (by omega)⟩
 ·exact .inr ⟨by omega,.inr ⟨by omega,List.lt_trans c k⟩⟩
abbrev Srt(l:List Fct):Prop:=l.Pairwise bef
abbrev DK(l:List Fct):Prop:=l.Pairwise fun f g=>f.key≠g.key
theorem Zft{α:Type}{r:α->α->Prop}(hi:∀x,¬r x x)(ht:∀x y z,r x y->r y z->r x z):∀{a b:List α},a.Pairwise r->b.Pairwise r->(∀x,x∈a↔x∈b)->a=b
 |[],[],_,_,_=>rfl
 |[],y::b,_,_,h=>by have:=(h y).2 (List.mem_cons_self ..);cases this
 |x::a,[],_,_,h=>by have:=(h x).1 (List.mem_cons_self ..);cases this
 |x::a,y::b,h1,h2,h=>by
  rw[List.pairwise_cons] at h1 h2
  have hxy:x=y:=by
   rcases List.mem_cons.1 ((h x).1 (List.mem_cons_self ..)) with e|e
   ·exact e
   ·rcases List.mem_cons.1 ((h y).2 (List.mem_cons_self ..)) with e2|e2
    ·exact e2.symm
    ·exact absurd (ht _ _ _ (h1.1 y e2) (h2.1 x e)) (hi x)
  subst hxy
  congr 1
  refine Zft hi ht h1.2 h2.2 fun z=> ?_
  have hz:=h z;rw[List.mem_cons,List.mem_cons] at hz
  constructor
  ·intro hm
   rcases hz.1 (.inr hm) with e|e
   ·subst e;exact absurd (h1.1 z hm) (hi z)
   ·exact e
  ·intro hm
   rcases hz.2 (.inr hm) with e|e
   ·subst e;exact absurd (h2.1 z hm) (hi z)
   ·exact e
section
end
end
section
open Go
structure LogOk (l:List Fct):Prop where
 len:l.length<=1000
 chk:∀f∈l,QK f=0
 ord:l.Pairwise fun f g=>f.stamp<=g.stamp
theorem LogOk.sub{l m:List Fct}(h:LogOk l)(hs:m.Sublist l):LogOk m:=⟨Nat.le_trans hs.length_le h.len,fun f hf=>h.chk f (hs.subset hf),h.ord.sublist hs⟩
theorem LogOk.take{l:List Fct}(h:LogOk l)(k:Nat):LogOk (l.take k):=h.sub (List.take_sublist k l)
structure VwOk (v:List Fct):Prop where
 len:v.length<=1000
 chk:∀f∈v,QK f=0/\f.cancelled=false/\f.stamp=0
 dk:DK v
 srt:Srt v
theorem ZaL:∀(fs pre:List Fct),DK pre->Srt pre->(Zbl pre fs=0↔(∀f∈fs,QK f=0/\f.cancelled=false/\f.stamp=0)/\DK (pre++fs)/\Srt (pre++fs))
 |[],pre,hd,hs=>by rw[List.append_nil];exact⟨fun _=>⟨fun f h=>(by cases h),hd,hs⟩,fun _=>rfl⟩
 |f::fs,pre,hd,hs=>by
  unfold Zbl
  have bad:∀(z:Int),z≠0->¬((∀g∈f::fs,QK g=0/\g.cancelled=false/\g.stamp=0)/\DK (pre++f::fs)/\Srt (pre++f::fs))->(z=0↔((∀g∈f::fs,QK g=0/\g.cancelled=false/\g.stamp=0)/\DK (pre++f::fs)/\Srt (pre++f::fs))):=
   fun z hz hn=>⟨fun h=>absurd h hz,fun h=>absurd h hn⟩
  by_cases h1:QK f=0
  ·rw[if_neg (by simpa using h1)]
   by_cases h2:f.cancelled=true
   ·rw[if_pos h2]
    exact bad 19 (by decide) fun h=>by have:=(h.1 f (List.mem_cons_self ..)).2.1;rw[h2] at this;cases this
   rw[if_neg h2]
   by_cases h3:f.stamp=0
   ·rw[if_neg (by simpa using h3)]
    by_cases h4:(pre.any fun g=>g.key==f.key)=true
    ·rw[if_pos h4];refine bad 5 (by decide) fun h=> ?_
     obtain⟨g,hg,e⟩:=List.any_eq_true.1 h4
     exact(List.pairwise_append.1 h.2.1).2.2 g hg f (List.mem_cons_self ..) (by simpa using e)
    ·rw[if_neg h4]
     by_cases h5:ZaJ pre.getLast? f=true
     ·rw[if_pos h5];refine bad 8 (by decide) fun h=> ?_
      cases hg:pre.getLast? with
      |none=>rw[hg] at h5;cases h5
      |some g=>
       rw[hg] at h5;have hb:=(List.pairwise_append.1 h.2.2).2.2 g (List.mem_of_getLast? hg) f (List.mem_cons_self ..);have:=(ZaK g f).2 hb
       simp[ZaJ] at h5;omega
     ·rw[if_neg h5];have hk:∀g∈pre,g.key≠f.key:=fun g hg e=>h4 (List.any_eq_true.2 ⟨g,hg,by simpa using e⟩)
      have hd2:DK (pre++[f]):=List.pairwise_append.2 ⟨hd,List.pairwise_singleton ..,fun g hg x hx=>by rw[List.mem_singleton.1 hx];exact hk g hg⟩
      have hs2:Srt (pre++[f]):=by
       refine List.pairwise_append.2 ⟨hs,List.pairwise_singleton ..,fun g hg x hx=> ?_⟩;rw[List.mem_singleton.1 hx]
       cases hl:pre.getLast? with
       |none=>rw[List.getLast?_eq_none_iff] at hl;subst hl;cases hg
       |some y=>
        rw[hl] at h5;have hyf:bef y f:=(ZaK y f).1 (by simp[ZaJ] at h5;omega);obtain⟨ys,rfl⟩:=List.getLast?_eq_some_iff.1 hl
        rcases List.mem_append.1 hg with hg|hg
        ·exact Zei ((List.pairwise_append.1 hs).2.2 g hg y (List.mem_cons_self ..)) hyf
        ·rw[List.mem_singleton.1 hg];exact hyf
      rw[ZaL fs (pre++[f]) hd2 hs2,List.append_assoc,List.singleton_append]
      constructor
      ·rintro⟨a,b,c⟩;refine⟨fun g hg=> ?_,b,c⟩
       rcases List.mem_cons.1 hg with rfl|hg
       ·exact⟨h1,by simpa using h2,h3⟩
       ·exact a g hg
      ·rintro⟨a,b,c⟩;exact⟨fun g hg=>a g (List.mem_cons_of_mem _ hg),b,c⟩
   ·rw[if_pos h3];exact bad 1 (by decide) fun h=>h3 (h.1 f (List.mem_cons_self ..)).2.2
  ·rw[if_pos h1];exact bad _ h1 fun h=>h1 (h.1 f (List.mem_cons_self ..)).1
theorem ZaM(v:List Fct):Zbm v=0↔VwOk v:=by
 unfold Zbm
 by_cases h:1000<v.length
 ·rw[if_pos h];exact⟨fun h=>(by cases h),fun h2=>by have:=h2.len;omega⟩
 ·rw[if_neg h,ZaL v [] List.Pairwise.nil List.Pairwise.nil];exact⟨fun⟨a,b,c⟩=>⟨by omega,a,b,c⟩,fun h2=>⟨h2.chk,h2.dk,h2.srt⟩⟩
theorem Zej{l:List Fct}{k:Nat}{f:Fct}(h:l[k]?=some f):l.take (k+1)=l.take k++[f]:=by
 obtain⟨hk,rfl⟩:=List.getElem?_eq_some_iff.1 h
 rw[List.take_succ_eq_append_getElem hk]
end
section
abbrev Ky:=List UInt8
section
def XI(R:Ky->Ky->Bool)(p:List Ky)(x:Ky):List Ky->List (List Ky)×List Ky->List (List Ky)×List Ky
 |[],s=>s
 |c::cs,s=>if(R x c&& !s.2.contains c)=true then XI R p x cs (s.1++[p++[c]],c::s.2) else XI R p x cs s
def bfs(R:Ky->Ky->Bool)(codes:List Ky)(tg:Ky):Nat->List (List Ky)->List Ky->Option (List Ky)
 |0,_,_=>none
 |_+1,[],_=>none
 |n+1,p::ps,seen=>match p.getLast? with
  |none=>none
  |some x=>if x=tg then some p else bfs R codes tg n (XI R p x codes (ps,seen)).1 (XI R p x codes (ps,seen)).2
def XD(R:Ky->Ky->Bool)(codes:List Ky)(x:Ky)(seen:List Ky):List Ky:=codes.filter fun c=>R x c&& !seen.contains c
variable {R:Ky->Ky->Bool} {codes seen:List Ky} {a x tg:Ky} {p:List Ky} {ps dn:List (List Ky)}
theorem Zb2{c:Ky}:c∈XD R codes x seen↔c∈codes/\R x c=true/\c ∉ seen:=by
 unfold XD;rw[List.mem_filter];simp
theorem Jq:∀{cs:List Ky} {ps:List (List Ky)} {seen:List Ky},cs.Nodup->XI R p x cs (ps,seen)=(ps++(XD R cs x seen).map (fun c=>p++[c]),(XD R cs x seen).reverse++seen)
 |[],ps,seen,_=>by simp[XI,XD]
 |c::cs,ps,seen,h=>by
  rw[List.nodup_cons] at h;unfold XI
  by_cases hc:(R x c&& !seen.contains c)=true
  ·have h2:XD R cs x (c::seen)=XD R cs x seen:=by
    unfold XD;refine List.filter_congr fun y hy=> ?_
    have:y≠c:=fun e=>h.1 (e▸hy)
    simp[this]
   have h3:XD R (c::cs) x seen=c::XD R cs x seen:=by unfold XD;rw[List.filter_cons,if_pos hc]
   rw[if_pos (show(R x c&& !(ps,seen).2.contains c)=true from hc),Jq h.2,h2,h3];simp
  ·have h3:XD R (c::cs) x seen=XD R cs x seen:=by unfold XD;rw[List.filter_cons,if_neg hc]
   rw[if_neg (show ¬(R x c&& !(ps,seen).2.contains c)=true from hc),Jq h.2,h3]
structure BI (R:Ky->Ky->Bool) (codes:List Ky) (a:Ky) (dn qu:List (List Ky)) (seen:List Ky):Prop where
 head:∀p∈dn++qu,p[0]?=some a
 edge:∀p∈dn++qu,∀i x y,p[i]?=some x->p[i+1]?=some y->R x y=true/\y∈codes
 pre:∀p∈dn++qu,∀k,0<k->k<p.length->p.take k∈dn
 lasts:(dn++qu).Pairwise fun p q=>p.getLast?≠q.getLast?
 seen:∀x,x∈seen↔∃p∈dn++qu,p.getLast?=some x
 srt:qu.Pairwise fun p q=>p.length<=q.length
 near:∀p,qu.head?=some p->∀q∈dn++qu,q.length<=p.length+1
 out:∀p∈dn,∀x y,p.getLast?=some x->R x y=true->y∈codes->∃q∈dn++qu,q.getLast?=some y/\q.length<=p.length+1
theorem BI.start:BI R codes a [] [[a]] [a] where
 head p hp:=by simp at hp;subst hp;rfl
 edge p hp i x y h1 h2:=by simp at hp;subst hp;simp at h2
 pre p hp k h1 h2:=by simp at hp;subst hp;simp at h2;omega
 lasts:=by simp
 seen x:=by simp[eq_comm]
 srt:=by simp
 near p hp q hq:=by simp at hp hq;subst hp;subst hq;omega
 out p hp:=by cases hp
theorem Zfu{p:List Ky}{c y:Ky}{i:Nat}(h:(p++[c])[i]?=some y):p[i]?=some y\/(i=p.length/\y=c):=by
 rw[List.getElem?_append] at h
 split at h
 ·exact .inl h
 ·rename_i h1
  have h2:=(List.getElem?_eq_some_iff.1 h).1;rw[List.length_singleton] at h2;have h3:i=p.length:=by omega
  subst h3;rw[Nat.sub_self,List.getElem?_cons_zero] at h;exact .inr ⟨rfl,(Option.some.inj h).symm⟩
theorem BI.step(h:BI R codes a dn (p::ps) seen)(hn:codes.Nodup)(hx:p.getLast?=some x):BI R codes a (dn++[p]) (ps++(XD R codes x seen).map fun c=>p++[c]) ((XD R codes x seen).reverse++seen):=by
 generalize hnw:XD R codes x seen=nw;have hm:∀c,c∈nw↔c∈codes/\R x c=true/\c ∉ seen:=fun c=>by rw[<-hnw];exact Zb2
 have hnd:nw.Nodup:=by rw[<-hnw];exact hn.filter _
 have hp:p∈dn++p::ps:=by simp
 have hall:∀q,q∈(dn++[p])++(ps++nw.map fun c=>p++[c])↔q∈dn++p::ps\/∃c∈nw,q=p++[c]:=fun q=>by
  simp only[List.mem_append,List.mem_cons,List.not_mem_nil,or_false,List.mem_map,or_assoc]
  constructor
  ·rintro(h|h|h|⟨c,h1,h2⟩)
   ·exact .inl h
   ·exact .inr (.inl h)
   ·exact .inr (.inr (.inl h))
   ·exact .inr (.inr (.inr ⟨c,h1,h2.symm⟩))
  ·rintro(h|h|h|⟨c,h1,h2⟩)
   ·exact .inl h
   ·exact .inr (.inl h)
   ·exact .inr (.inr (.inl h))
   ·exact .inr (.inr (.inr ⟨c,h1,h2.symm⟩))
 have hpl:∀q∈ps,p.length<=q.length:=(List.pairwise_cons.1 h.srt).1;have hps:ps.Pairwise fun p q=>p.length<=q.length:=(List.pairwise_cons.1 h.srt).2
 have hnear:=h.near p rfl;have hp0:=h.head p hp;have hpn:0<p.length:=(List.getElem?_eq_some_iff.1 hp0).1;have hlp:p[p.length-1]?=some x:=by rw[<-List.getLast?_eq_getElem?];exact hx
 refine⟨fun q hq=> ?_,fun q hq i y z h1 h2=> ?_,fun q hq k h1 h2=> ?_,?_,fun y=> ?_,?_,fun q hq r hr=> ?_,fun q hq y z h1 h2 h3=> ?_⟩
 ·rcases(hall q).1 hq with hq|⟨c,_,rfl⟩
  ·exact h.head q hq
  ·rw[List.getElem?_append_left hpn];exact hp0
 ·rcases(hall q).1 hq with hq|⟨c,hc,rfl⟩
  ·exact h.edge q hq i y z h1 h2
  ·rcases Zfu h2 with h2|⟨e,rfl⟩
   ·have:i+1<p.length:=(List.getElem?_eq_some_iff.1 h2).1
    rw[List.getElem?_append_left (by omega)] at h1;exact h.edge p hp i y z h1 h2
   ·rw[List.getElem?_append_left (by omega),show i=p.length-1 by omega,hlp] at h1;obtain rfl:=Option.some.inj h1;exact⟨((hm z).1 hc).2.1,((hm z).1 hc).1⟩
 ·rcases(hall q).1 hq with hq|⟨c,_,rfl⟩
  ·exact List.mem_append_left _ (h.pre q hq k h1 h2)
  ·rw[List.length_append,List.length_singleton] at h2
   by_cases hk:k=p.length
   ·subst hk;rw[List.take_left];simp
   ·rw[List.take_append_of_le_length (by omega)];exact List.mem_append_left _ (h.pre p hp k h1 (by omega))
 ·rw[<-List.append_assoc,List.append_assoc dn,List.singleton_append,List.pairwise_append];refine⟨h.lasts,?_,fun q hq r hr=> ?_⟩
  ·rw[List.pairwise_map];refine hnd.imp fun {c d} hcd=> ?_
   rw[List.getLast?_concat,List.getLast?_concat];exact fun e=>hcd (Option.some.inj e)
  ·obtain⟨c,hc,rfl⟩:=List.mem_map.1 hr
   rw[List.getLast?_concat];exact fun e=>((hm c).1 hc).2.2 ((h.seen c).2 ⟨q,hq,e⟩)
 ·rw[List.mem_append,List.mem_reverse,h.seen]
  constructor
  ·rintro(hc|⟨q,hq,e⟩)
   ·exact⟨p++[y],(hall _).2 (.inr ⟨y,hc,rfl⟩),List.getLast?_concat ..⟩
   ·exact⟨q,(hall _).2 (.inl hq),e⟩
  ·rintro⟨q,hq,e⟩
   rcases(hall q).1 hq with hq|⟨c,hc,rfl⟩
   ·exact .inr ⟨q,hq,e⟩
   ·rw[List.getLast?_concat] at e;obtain rfl:=Option.some.inj e;exact .inl hc
 ·rw[List.pairwise_append];refine⟨hps,?_,fun q hq r hr=> ?_⟩
  ·rw[List.pairwise_map];exact hnd.imp fun {c d} _=>by simp
  ·obtain⟨c,hc,rfl⟩:=List.mem_map.1 hr
   have:=hnear q (by simp[hq])
   rw[List.length_append,List.length_singleton];omega
 ·have hq2:p.length<=q.length:=by
   cases ps with
   |nil=>
    rw[List.nil_append] at hq;obtain⟨c,_,rfl⟩:=List.mem_map.1 (List.mem_of_head? hq)
    simp
   |cons r rs=>
    simp only[List.cons_append,List.head?_cons,Option.some.injEq] at hq;subst hq;exact hpl _ (List.mem_cons_self ..)
  rcases(hall r).1 hr with hr|⟨c,_,rfl⟩
  ·have:=hnear r hr
   omega
  ·rw[List.length_append,List.length_singleton];omega
 ·rcases List.mem_append.1 hq with hq|hq
  ·obtain⟨r,hr,h4,h5⟩:=h.out q hq y z h1 h2 h3
   exact⟨r,(hall r).2 (.inl hr),h4,h5⟩
  ·obtain rfl:=List.mem_singleton.1 hq;rw[hx] at h1;obtain rfl:=Option.some.inj h1
   by_cases hz:z∈seen
   ·obtain⟨r,hr,h4⟩:=(h.seen z).1 hz
    exact⟨r,(hall r).2 (.inl hr),h4,hnear r hr⟩
   ·exact⟨q++[z],(hall _).2 (.inr ⟨z,(hm z).2 ⟨h3,h2,hz⟩,rfl⟩),List.getLast?_concat ..,by simp⟩
theorem Zc3{P:List Ky->Option Ky}:∀{l:List (List Ky)},(l.Pairwise fun p q=>P p≠P q)->∀{p q:List Ky},p∈l->q∈l->P p=P q->p=q
 |[],_,p,q,hp,_,_=>by cases hp
 |r::l,h,p,q,hp,hq,e=>by
  rw[List.pairwise_cons] at h
  rcases List.mem_cons.1 hp with h1|h1<;>rcases List.mem_cons.1 hq with h2|h2
  ·rw[h1,h2]
  ·rw[h1] at e;exact absurd e (h.1 q h2)
  ·rw[h2] at e;exact absurd e.symm (h.1 p h1)
  ·exact Zc3 h.2 h1 h2 e
theorem Zb3(hn:codes.Nodup):∀{n:Nat} {dn qu:List (List Ky)} {seen:List Ky} {p:List Ky},BI R codes a dn qu seen->bfs R codes tg n qu seen=some p->
 p[0]?=some a/\p.getLast?=some tg/\(∀i x y,p[i]?=some x->p[i+1]?=some y->R x y=true/\y∈codes)/\(∀i k x y,i<k->p[i]?=some x->p[k]?=some y->x≠y/\(R x y=true->k=i+1))
 |0,_,_,_,_,_,h=>by cases h
 |n+1,dn,[],seen,p,_,h=>by cases h
 |n+1,dn,q::qs,seen,p,hI,h=>by
  have hq:q∈dn++q::qs:=by simp
  cases hx:q.getLast? with
  |none=>simp only[bfs,hx] at h;cases h
  |some x=>
   simp only[bfs,hx] at h
   by_cases hxt:x=tg
   ·rw[if_pos hxt] at h;obtain rfl:=Option.some.inj h;subst hxt;refine⟨hI.head q hq,hx,hI.edge q hq,fun i k y z hik hy hz=> ?_⟩;have hkl:k<q.length:=(List.getElem?_eq_some_iff.1 hz).1;have hi:q.take (i+1)∈dn:=hI.pre q hq (i+1) (by omega) (by omega)
    have hk:q.take (k+1)∈dn++q::qs:=by
     by_cases e:k+1=q.length
     ·rw[e,List.take_length];exact hq
     ·exact List.mem_append_left _ (hI.pre q hq (k+1) (by omega) (by omega))
    have li:(q.take (i+1)).getLast?=some y:=by
     rw[List.getLast?_take,if_neg (by omega),Nat.add_sub_cancel,hy];rfl
    have lk:(q.take (k+1)).getLast?=some z:=by
     rw[List.getLast?_take,if_neg (by omega),Nat.add_sub_cancel,hz];rfl
    constructor
    ·rintro rfl;have e:=Zc3 hI.lasts (List.mem_append_left _ hi) hk (li.trans lk.symm);have e2:=congrArg List.length e;rw[List.length_take,List.length_take] at e2;omega
    ·intro hr
     have hc:z∈codes:=by
      have h1:=hI.edge q hq (k-1) _ z (List.getElem?_eq_getElem (by omega)) (by rw[Nat.sub_add_cancel (by omega)];exact hz);exact h1.2
     obtain⟨r,hr1,hr2,hr3⟩:=hI.out _ hi y z li hr hc
     have e:=Zc3 hI.lasts hr1 hk (hr2.trans lk.symm);rw[e,List.length_take,List.length_take] at hr3;omega
   ·rw[if_neg hxt,Jq hn] at h;exact Zb3 hn (hI.step hn hx) h
theorem Zb4:∀{l:List Ky} {P Q:Ky->Bool},(∀x,Q x=true->P x=true)->(l.filter fun x=>P x&& !Q x).length+(l.filter Q).length=(l.filter P).length
 |[],_,_,_=>rfl
 |x::l,P,Q,h=>by
  have ih:=Zb4 (l:=l) h;have:=h x
  cases hp:P x<;>cases hq:Q x<;>simp_all<;>omega
theorem Zg7:(codes.filter fun c=> !((XD R codes x seen).reverse++seen).contains c).length+(XD R codes x seen).length=(codes.filter fun c=> !seen.contains c).length:=by
 rw[<-Zb4 (l:=codes) (P:=fun c=> !seen.contains c) (Q:=fun c=>R x c&& !seen.contains c) (fun c h=>by simp at h ⊢; exact h.2)]
 congr 2
 refine List.filter_congr fun c hc=> ?_
 have h1:c∈XD R codes x seen↔c∈codes/\R x c=true/\c ∉ seen:=Zb2
 by_cases hs:c∈seen
 ·simp[hs]
 ·by_cases hr:R x c=true
  ·have:=h1.2 ⟨hc,hr,hs⟩
   simp[this,hs,hr]
  ·have:c ∉ XD R codes x seen:=fun h=>hr (h1.1 h).2.1
   simp[this,hs,hr]
end
end
section
open Go
theorem JM(s t:List UInt8):∀l,t∈VN s l↔t=s\/t∈l
 |[]=>by simp[VN]
 |x::l=>by
  unfold VN
  by_cases h1:Op.bytesLess s x=true
  ·rw[if_pos h1];simp
  ·rw[if_neg h1]
   by_cases h2:Op.bytesLess x s=true
   ·rw[if_pos h2,List.mem_cons,JM s t l,List.mem_cons]
    constructor
    ·rintro(h|h|h)
     ·exact .inr (.inl h)
     ·exact .inl h
     ·exact .inr (.inr h)
    ·rintro(h|h|h)
     ·exact .inr (.inl h)
     ·exact .inl h
     ·exact .inr (.inr h)
   ·rw[if_neg h2]
    have hsx:s=x:=by
     rcases Jp s x with h|h|h
     ·exact absurd ((blt s x).2 h) h1
     ·exact h
     ·exact absurd ((blt x s).2 h) h2
    subst hsx
    constructor
    ·intro h;exact .inr h
    ·rintro(rfl|h)
     ·exact List.mem_cons_self ..
     ·exact h
theorem Vn(t:List UInt8):∀l,t∈Vd l↔t∈l
 |[]=>by simp[Vd]
 |s::l=>by unfold Vd;rw[JM,Vn t l,List.mem_cons]
theorem Zb6(s:List UInt8):∀{l:List (List UInt8)},l.Pairwise (·< ·)->(VN s l).Pairwise (·< ·)
 |[],_=>by simp[VN]
 |x::l,h=>by
  rw[List.pairwise_cons] at h;unfold VN
  by_cases h1:Op.bytesLess s x=true
  ·rw[if_pos h1];have h1:=(blt s x).1 h1;refine List.pairwise_cons.2 ⟨fun g hg=> ?_,List.pairwise_cons.2 h⟩
   rcases List.mem_cons.1 hg with rfl|hg
   ·exact h1
   ·exact List.lt_trans h1 (h.1 g hg)
  ·rw[if_neg h1]
   by_cases h2:Op.bytesLess x s=true
   ·rw[if_pos h2];refine List.pairwise_cons.2 ⟨fun g hg=> ?_,Zb6 s h.2⟩
    rcases(JM s g l).1 hg with rfl|hg
    ·exact(blt _ _).1 h2
    ·exact h.1 g hg
   ·rw[if_neg h2];exact List.pairwise_cons.2 h
theorem Vo:∀(l:List (List UInt8)),(Vd l).Pairwise (·< ·)
 |[]=>List.Pairwise.nil
 |s::l=>Zb6 s (Vo l)
theorem JN{a b:List (List UInt8)}(h:b.Pairwise (·< ·))(hm:∀k,k∈b↔k∈a):b=Vd a:=
 Zft (fun x=>List.lt_irrefl x) (fun _ _ _=>List.lt_trans) h (Vo a) fun k=>by rw[hm,Vn]
section
variable {a b:List Fct}
end
end
section
open Go
theorem ZfC{a b:List UInt8}:a<=b↔a<b\/a=b:=by
 constructor
 ·intro h
  rcases Jp a b with h1|h1|h1
  ·exact .inl h1
  ·exact .inr h1
  ·exact absurd h1 h
 ·rintro(h|rfl)
  ·exact fun h2=>List.lt_irrefl a (List.lt_trans h h2)
  ·exact List.lt_irrefl a
theorem Zc6{a b c:List UInt8}(h:a<=b)(k:b<=c):a<=c:=by
 rw[ZfC] at*
 rcases h with h|rfl
 ·rcases k with k|rfl
  ·exact .inl (List.lt_trans h k)
  ·exact .inl h
 ·exact k
def Xf(xs:List (List UInt8)):List (List UInt8):=xs.mergeSort fun x y=>decide (x<=y)
theorem YK(xs:List (List UInt8)):(Xf xs).length=xs.length:=List.length_mergeSort xs
theorem Zbs(zs:List (List UInt8)):(Lib.compact zs).length<=zs.length:=by
 unfold Lib.compact Lib.compactUpTo;rw[List.length_map];exact Nat.le_trans (List.length_filter_le _ _) (by simp)
theorem Zam(d:Array (List UInt8))(hs:∀i j,i<=j->j<d.size->d[i]! <=d[j]!)(m:Nat)(hm:m<=d.size):
 (Lib.compactUpTo d m).Pairwise (·< ·)/\(∀x,x∈Lib.compactUpTo d m↔∃j,j<m/\d[j]! =x):=by
 induction m with
 |zero=>exact⟨by unfold Lib.compactUpTo;simp,fun x=>by unfold Lib.compactUpTo;simp⟩
 |succ m ih=>
  obtain⟨h1,h2⟩:=ih (by omega)
  rw[Lib.compactUpTo_succ]
  by_cases hk:Lib.keeps d m=true
  ·rw[if_pos hk];refine⟨?_,fun x=> ?_⟩
   ·rw[List.pairwise_append];refine⟨h1,by simp,fun x hx y hy=> ?_⟩;simp at hy;subst hy;obtain⟨j,hj,rfl⟩:=(h2 x).1 hx
    unfold Lib.keeps at hk;simp only[decide_eq_true_eq] at hk;have h3:=hs j (m-1) (by omega) (by omega);have h4:=hs (m-1) m (by omega) (by omega)
    rcases hk with hk|hk
    ·omega
    ·rcases ZfC.1 h4 with h4|h4
     ·rcases ZfC.1 h3 with h3|h3
      ·exact List.lt_trans h3 h4
      ·rw[h3];exact h4
     ·exact absurd h4.symm hk
   ·rw[List.mem_append,h2];simp only[List.mem_singleton]
    constructor
    ·rintro(⟨j,hj,rfl⟩|rfl)
     ·exact⟨j,by omega,rfl⟩
     ·exact⟨m,by omega,rfl⟩
    ·rintro⟨j,hj,rfl⟩
     by_cases e:j=m
     ·subst e;exact .inr rfl
     ·exact .inl ⟨j,by omega,rfl⟩
  ·rw[if_neg hk,List.append_nil];refine⟨h1,fun x=> ?_⟩;rw[h2];unfold Lib.keeps at hk;simp only[decide_eq_true_eq,not_or,ne_eq,Decidable.not_not] at hk
   constructor
   ·rintro⟨j,hj,rfl⟩;exact⟨j,by omega,rfl⟩
   ·rintro⟨j,hj,rfl⟩
    by_cases e:j=m
    ·subst e;exact⟨j-1,by omega,hk.2.symm⟩
    ·exact⟨j,by omega,rfl⟩
theorem Zhc(xs:List (List UInt8)):Lib.compact (Xf xs)=Vd xs:=by
 have hsorted:(Xf xs).Pairwise (fun a b=>a<=b):=by
  have:=List.pairwise_mergeSort (le:=fun x y:List UInt8=>decide (x<=y)) (fun a b c h k=>by rw[decide_eq_true_eq] at *; exact Zc6 h k) (fun a b=>by
   rw[Bool.or_eq_true,decide_eq_true_eq,decide_eq_true_eq,ZfC,ZfC]
   rcases Jp a b with h|h|h
   ·exact .inl (.inl h)
   ·exact .inl (.inr h)
   ·exact .inr (.inl h)) xs
  exact this.imp (by simp)
 have hget:∀i,(h:i<(Xf xs).length)->(Xf xs).toArray[i]! =(Xf xs)[i]:=fun i hi=>by simp[hi]
 have hs:∀i j,i<=j->j<(Xf xs).toArray.size->(Xf xs).toArray[i]! <=(Xf xs).toArray[j]! :=by
  intro i j hij hj;have hj':j<(Xf xs).length:=by simpa using hj
  rw[hget i (by omega),hget j hj']
  rcases Nat.lt_or_ge i j with h|h
  ·exact List.pairwise_iff_getElem.1 hsorted i j (by omega) hj' h
  ·have:i=j:=by omega
   subst this;exact List.lt_irrefl _
 obtain⟨h1,h2⟩:=Zam (Xf xs).toArray hs (Xf xs).length (by simp)
 refine JN h1 fun x=> ?_
 show x∈Lib.compactUpTo _ _↔_
 rw[h2];have hp:x∈Xf xs↔x∈xs:=(List.mergeSort_perm xs _).mem_iff;rw[<-hp,List.mem_iff_getElem]
 constructor
 ·rintro⟨j,hj,rfl⟩;exact⟨j,hj,(hget j hj).symm⟩
 ·rintro⟨j,hj,rfl⟩;exact⟨j,hj,hget j hj⟩
end
section
open Go
theorem Zco(s:List UInt8):∀l,(VN s l).length<=l.length+1
 |[]=>Nat.le_refl _
 |t::ts=>by
  have ih:=Zco s ts;unfold VN
  split
  ·simp
  ·split
   ·simp;omega
   ·simp
theorem Zcp:∀l,(Vd l).length<=l.length
 |[]=>Nat.le_refl _
 |s::ss=>by
  have ih:=Zcp ss;have h:=Zco s (Vd ss);unfold Vd;rw[List.length_cons];omega
section
variable {a b:List Fct}
end
end
section
def Zbz(b:UInt8):Bool:=decide (65<=b.toNat)&&decide (b.toNat<=90)
theorem ZaZ(s:List UInt8):Qp s=(s.length==3&&s.all Zbz):=rfl
theorem ZeG{s:List UInt8}{k:Nat}{b:UInt8}(h:s[k]?=some b)(hb:Zbz b=false):Qp s=false:=by
 rw[ZaZ,Bool.and_eq_false_iff];exact .inr (List.all_eq_false.2 ⟨b,List.mem_of_getElem? h,by simp[hb]⟩)
theorem Zgm{s:List UInt8}{k:Nat}{b:UInt8}(h:s[k]?=some b)(ha:(s.take k).all Zbz=true)(hb:Zbz b=true):(s.take (k+1)).all Zbz=true:=by
 obtain⟨hk,rfl⟩:=List.getElem?_eq_some_iff.1 h
 rw[List.take_succ_eq_append_getElem hk,List.all_append,ha,Bool.true_and];simp[hb]
theorem Zgn(b:UInt8):Zbz b=true↔65<=b.toNat/\b.toNat<=90:=by unfold Zbz;simp
end
end Go.Proofs.YtokjnjdbnabchaaGreatDoor
