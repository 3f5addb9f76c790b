/- Lp0, D0, A0, W0, Dv, Lp1, Lp2, Lp3, Lt0, Fk0, Vw0, Vaq, Vw1, Vw2, Vw3, Vsp. -/
import Derived.Test.YtbcnkcldlealjaaGreatDoorQGVa1
import Derived.Lib.AtoiAllCases
import Derived.Lib.IndexLaws
import Derived.Lib.SlicesCompact
namespace Go.Proofs.YtbcnkcldlealjaaGreatDoor
section
open Go.RowKit Go.Shelf
structure Lot where
 id:List UInt8
 inst:List UInt8
 acq:Int
 opn:Int
 q:List UInt8
 c:List UInt8
 u:List UInt8
deriving DecidableEq
def ZiX(a:List UInt8):Bool:=decide (a=Qi (val a))
def Vq(c:UInt8):Bool:=(decide (97<=c)&&decide (c<=122))||(decide (48<=c)&&decide (c<=57))||c==95
def Qw(s:List UInt8):Bool:=decide (s≠[])&&decide (s.length<=16)&&s.all Vq
def Zcb(s:List UInt8):Bool:=decide (1<=s.length)&&decide (s.length<=4)&&decide (s.head?≠some 48)&&s.all Qz
def idB(s:List UInt8):Bool:=decide (47∈s)&&Qw (s.takeWhile (·!=47))&&Zcb ((s.dropWhile (·!=47)).drop 1)
def Zij(d:Int):Bool:=decide (-25567<=d)&&decide (d<=84005)
structure Lot.Ok (l:Lot):Prop where
 id:idB l.id=true
 inst:Qw l.inst=true
 acq:Zij l.acq=true
 opn:Zij l.opn=true
 ord:l.acq<=l.opn
 q:ZiX l.q=true
 c:ZiX l.c=true
 q0:0<val l.q
 c0:0<=val l.c
 u:l.u=[]\/l.u=l.q
structure LotsOk (l:List Lot):Prop where
 len:l.length<=1000
 ok:∀x∈l,x.Ok
 ids:(l.map (·.id)).Nodup
def leS(a b:List UInt8):Bool:=Op.bytesLess a b||a==b
def ZdN(l:List Lot)(i:List UInt8):Nat:=l.length-(l.reverse.takeWhile (fun y=> !leS y.inst i)).length
def ZiY(l:List Lot)(x:Lot):List Lot:=l.take (ZdN l x.inst)++x::l.drop (ZdN l x.inst)
end
section
open Go.RowKit Go.Shelf
end
section
open Go.RowKit Go.Shelf
theorem Zcc(l m:List Int):(l++m).sum=l.sum+m.sum:=by
 induction l with
 |nil=>simp
 |cons a l ih=>simp only[List.cons_append,List.sum_cons,ih];omega
end
section
open Go.RowKit Go.Shelf
def Zes(ws:List (List UInt8)):Int:=(ws.map val).sum
theorem Zfy{ws:List (List UInt8)}{L:Nat}(h:∀x∈ws,x.length<=L):(Zes ws).natAbs<=ws.length*10^L:=by
 unfold Zes
 induction ws with
 |nil=>simp
 |cons a l ih=>
  have h1:=ih (fun x hx=>h x (by simp[hx]));have h2:=Yv (h a (by simp));simp only[List.map_cons,List.sum_cons,List.length_cons,Nat.succ_mul];omega
theorem Zfz{ws:List (List UInt8)}{L:Nat}(h:∀x∈ws,x.length<=L)(hn:ws.length<=9999):(Qi (Zes ws)).length<=L+5:=by
 refine QJ (L:=L+4) ?_;have h1:=Zfy h;have h2:ws.length*10^L<10^4*10^L:=Nat.mul_lt_mul_of_pos_right (by omega) (Nat.pow_pos (by omega));rw[Nat.pow_add,Nat.mul_comm (10^L)];omega
end
section
open Go.RowKit
theorem Zc7(n:Int):Rat.divInt n 1=(n:Rat):=by
 have:=Rat.num_divInt_den (n:Rat)
 simpa using this
end
section
open Go.RowKit Go.Shelf
structure Mp where
 cause:List UInt8
 day:Int
 inst:List UInt8
 other:List UInt8
 ratio:Fr
 share:Fr
 price:Fr
 keep:Bool
deriving DecidableEq
structure Mp.Ok (m:Mp):Prop where
 cause:Qw m.cause=true
 inst:Qw m.inst=true
 other:Qw m.other=true
 day:Zij m.day=true
 ratio:m.ratio.ok
 share:m.share.ok
 price:m.price.ok
 r0:0<m.ratio.rat
 s0:0<=m.share.rat
 s1:m.share.rat<=1
 p0:0<=m.price.rat
 keep:m.keep=true->m.other≠m.inst
 all:m.keep=false->m.share.rat=1
structure Plan where
 exact:Rat
 parts:Int
 part:Rat
 moved:Int
 taken:Int
 cash:Int
 n:List Int
 m:List Int
 f:List Int
 p:List Int
end
section
open Go.RowKit Go.Shelf
def Plan.mv(x:Plan)(i:Nat):Int:=x.m.getD i 0-x.f.getD i 0
def Plan.rest(x:Plan)(i:Nat):Int:=(((List.range i).filter fun k=>decide (x.n.getD k 0=0)).map x.mv).sum
structure Gain where
 cause:List UInt8
 lot:List UInt8
 inst:List UInt8
 acq:Int
 closed:Int
 q:List UInt8
 proceeds:List UInt8
 cost:List UInt8
 deferred:List UInt8
 replaced:List UInt8
deriving DecidableEq
structure Stp where
 cause:List UInt8
 src:List UInt8
 dst:List UInt8
 q:List UInt8
 made:List UInt8
 cost:List UInt8
deriving DecidableEq
structure Res where
 lots:List Lot
 gains:List Gain
 steps:List Stp
def Res.none:Res:=⟨[],[],[]⟩
theorem ZfA(a:List UInt8):leS a a=true:=by unfold leS;simp
structure CutAt (i:List UInt8) (A B:List Lot):Prop where
 b:∀y∈B,leS y.inst i=false
 a:A=[]\/∃A' y,A=A'++[y]/\leS y.inst i=true
theorem CutAt.at_{i:List UInt8}{A B:List Lot}(h:CutAt i A B):ZdN (A++B) i=A.length:=by
 unfold ZdN
 have e:((A++B).reverse.takeWhile (fun y=> !leS y.inst i))=B.reverse:=by
  rw[List.reverse_append,List.takeWhile_append_of_pos (fun y hy=>by simp[h.b y (by simpa using hy)])]
  have e2:A.reverse.takeWhile (fun y=> !leS y.inst i)=[]:=by
   rcases h.a with rfl|⟨A',y,rfl,hy⟩
   ·rfl
   ·rw[List.reverse_append];simp[hy]
  rw[e2,List.append_nil]
 rw[e];simp
theorem CutAt.put{A B:List Lot}{x:Lot}(h:CutAt x.inst A B):ZiY (A++B) x=A++x::B:=by
 unfold ZiY;rw[h.at_,List.take_left,List.drop_left]
theorem CutAt.next{A B:List Lot}{x:Lot}(h:CutAt x.inst A B):CutAt x.inst (A++[x]) B:=⟨h.b,.inr ⟨A,x,rfl,ZfA _⟩⟩
theorem LotsOk.put{l:List Lot}{x:Lot}(h:LotsOk l)(hx:x.Ok)(hid:x.id ∉ l.map (·.id))(hl:l.length<1000){A B:List Lot}(e:l=A++B):LotsOk (A++x::B):=by
 subst e;have hp:(A++x::B).Perm (x::(A++B)):=List.perm_middle;refine⟨?_,?_,?_⟩
 ·rw[hp.length_eq];simp at hl ⊢; omega
 ·intro y hy
  rcases List.mem_cons.1 (hp.mem_iff.1 hy) with rfl|hy
  ·exact hx
  ·exact h.ok y hy
 ·rw[(hp.map (·.id)).nodup_iff,List.map_cons,List.nodup_cons];exact⟨hid,h.ids⟩
end
section
open Go.RowKit Go.Shelf
end
section
open Go.RowKit Go.Shelf
theorem Zet(l:List UInt8)(h:l.all Qz=true):∀acc:Nat,acc*10^l.length+Qg l<1000000000000000000->Lib.parseUint10 acc l=.ok (acc*10^l.length+Qg l):=by
 induction l with
 |nil=>intro acc _;simp[Lib.parseUint10,Qg]
 |cons b l ih=>
  intro acc hb;simp only[List.all_cons,Bool.and_eq_true] at h;have h1:=(Xq b).1 h.1
  have e:Qg (b::l)=(b.toNat-48)*10^l.length+Qg l:=by
   have:=YK [b] l
   simpa[Qg] using this
  rw[e,List.length_cons,Nat.pow_succ] at hb ⊢;have hp:1<=10^l.length:=Nat.pow_pos (by omega)
  have e2:acc*(10^l.length*10)+((b.toNat-48)*10^l.length+Qg l)=(acc*10+(b.toNat-48))*10^l.length+Qg l:=by
   rw[Nat.add_mul,Nat.mul_assoc,Nat.mul_comm 10,Nat.add_assoc]
  rw[e2] at hb ⊢;have h3:acc*10+(b.toNat-48)<=(acc*10+(b.toNat-48))*10^l.length:=Nat.le_mul_of_pos_right _ hp;unfold Lib.parseUint10;rw[if_pos (by omega),if_neg (by omega),if_neg (by omega)];exact ih h.2 _ hb
theorem ZfB{l:List UInt8}(h:l.all Qz=true)(hn:l≠[])(h4:l.length<=17):Lib.atoiAll l=.ok (Qg l:Int):=by
 cases l with
 |nil=>exact absurd rfl hn
 |cons b t=>
  have hb:=h;simp only[List.all_cons,Bool.and_eq_true] at hb;have h1:=(Xq b).1 hb.1;rw[Lib.atoiAll_plain b t (by omega) (by omega)];unfold Lib.parseMag;rw[if_neg (by simp)];have hv:=VG h;have hp:10^(b::t).length<=10^17:=Nat.pow_le_pow_right (by omega) h4;rw[Zet _ h 0 (by omega)];simp only[Nat.zero_mul,Nat.zero_add];unfold Lib.signless;simp only;rw[if_neg (by omega)]
theorem Zeu{k:Nat}(h1:1<=k)(h2:k<=9999):Zcb (QG k)=true:=by
 unfold Zcb;obtain⟨b,l,e,hb,_⟩:=VW k (by omega)
 have h3:=Ju (m:=k) (L:=4) (by omega);have h4:=Zfr k (by omega)
 have h5:(some b:Option UInt8)≠some 48:=fun e2=>by
  injection e2 with e2;subst e2;exact absurd hb (by decide)
 rw[Zaa,decide_eq_true h3,decide_eq_true h4,e,List.head?_cons,decide_eq_true h5];rfl
theorem Zev(l:List UInt8):Zcb l=match Lib.atoiAll l with| .ok v=>decide (1<=v)&&(decide (v<=9999)&&(Lib.itoa v==l))|_=>false:=by
 by_cases h:Zcb l=true
 ·have h':=h;unfold Zcb at h';simp only[Bool.and_eq_true,decide_eq_true_eq] at h';obtain⟨⟨⟨a1,a2⟩,a3⟩,a4⟩:=h'
  have hne:l≠[]:=fun e=>by rw[e] at a1;simp at a1
  rw[h,ZfB a4 hne (by omega)]
  have hd:QG (Qg l)=l:=Zeq a4 (fun b t e=>by
   rw[e] at a3;simp only[List.head?_cons,ne_eq,Option.some.injEq] at a3;simpa using a3)
  have hv:Qg l<10^4:=Nat.lt_of_lt_of_le (VG a4) (Nat.pow_le_pow_right (by omega) a2);have h0:Qg l≠0:=fun e=>by rw[e] at hd;exact hne hd.symm
  have hi:Lib.itoa (Qg l:Int)=l:=by
   unfold Lib.itoa;rw[if_neg (by omega)]
   conv=>rhs;rw[<-hd]
   unfold QG;rw[if_neg h0];simp
  simp only[hi,beq_self_eq_true,Bool.and_true];rw[decide_eq_true (show(1:Int)<=(Qg l:Int) by omega),decide_eq_true (show(Qg l:Int)<=9999 by omega)];rfl
 ·have hf:Zcb l=false:=by simpa using h
  rw[hf]
  rcases ha:Lib.atoiAll l with v|_|_
  ·simp only
   cases h1:decide (1<=v) with
   |false=>rfl
   |true=>
    cases h2:decide (v<=9999) with
    |false=>rfl
    |true=>
     cases h3:Lib.itoa v==l with
     |false=>rfl
     |true=>
      exfalso
      apply h
      have h3:=eq_of_beq h3;simp only[decide_eq_true_eq] at h1 h2;rw[<-h3];unfold Lib.itoa;rw[if_neg (by omega)];have:=Zeu (k:=v.toNat) (by omega) (by omega)
      unfold QG at this;rw[if_neg (by omega)] at this;simpa using this
  ·rfl
  ·rfl
def Ya(s:List UInt8):List UInt8:=s.takeWhile (·!=47)
def Vw(s:List UInt8):List UInt8:=(s.dropWhile (·!=47)).drop 1
theorem Za3(s:List UInt8):(47∈s->Lib.indexByte s 47=((Ya s).length:Nat)/\(Ya s).length<s.length/\s.take (Ya s).length=Ya s/\s.drop ((Ya s).length+1)=Vw s)/\(47 ∉ s->Lib.indexByte s 47= -1/\Ya s=s/\Vw s=[]):=by
 induction s with
 |nil=>exact⟨fun h=>by simp at h,fun _=>⟨rfl,rfl,rfl⟩⟩
 |cons b l ih=>
  by_cases hb:b=47
  ·subst hb;refine⟨fun _=> ?_,fun h=>absurd (List.mem_cons_self) h⟩;refine⟨rfl,by simp[Ya],by simp[Ya],?_⟩;simp[Ya,Vw]
  ·have e1:Ya (b::l)=b::Ya l:=by unfold Ya;rw[List.takeWhile_cons];simp[hb]
   have e2:Vw (b::l)=Vw l:=by unfold Vw;rw[List.dropWhile_cons];simp[hb]
   have hbb:(b==47)=false:=by simpa using hb
   constructor
   ·intro h
    have hl:47∈l:=by
     rcases List.mem_cons.1 h with e|h
     ·exact absurd e.symm hb
     ·exact h
    obtain⟨a1,a2,a3,a4⟩:=ih.1 hl
    refine⟨?_,?_,?_,?_⟩
    ·rw[Lib.indexByte,hbb,a1,e1];simp only[Bool.false_eq_true,if_false];rw[if_neg (by simp)];simp
    ·rw[e1];simp;omega
    ·rw[e1];simp[a3]
    ·rw[e1,e2];simpa using a4
   ·intro h;have hl:47 ∉ l:=fun hm=>h (List.mem_cons_of_mem b hm)
    obtain⟨a1,a2,a3⟩:=ih.2 hl
    refine⟨?_,by rw[e1,a2],by rw[e2,a3]⟩;rw[Lib.indexByte,hbb,a1];rfl
theorem Zil(s:List UInt8):idB s=(Zcb (Vw s)&&Qw (Ya s)):=by
 unfold idB
 by_cases h:47∈s
 ·rw[decide_eq_true h,Bool.true_and,Bool.and_comm];rfl
 ·rw[decide_eq_false h];have e:Vw s=[]:=((Za3 s).2 h).2.2;rw[e];rfl
end
section
structure Pk where
 lot:List UInt8
 q:List UInt8
deriving DecidableEq
structure Opn where
 other:List UInt8
 ratio:Fr
 price:Fr
 value:Fr
deriving DecidableEq
structure Fct where
 key:List UInt8
 stamp:Int
 cancelled:Bool
 day:Int
 kind:Int
 inst:List UInt8
 other:List UInt8
 cur:List UInt8
 target:List UInt8
 q:List UInt8
 amount:List UInt8
 fee:List UInt8
 price:Fr
 ratio:Fr
 share:Fr
 picks:List Pk
 options:List Opn
 choice:Int
deriving DecidableEq
structure KRow where
 cls:Int
 nums:List (Nat×Bool×Bool)
 more:List Nat
 code:Bool
def XE(k:Int):Option KRow:=
 match k with
 |1|2|6|17|18=>some ⟨2,[(5,true,false)],[2],false⟩
 |3=>some ⟨3,[(4,true,false),(5,false,false),(6,false,false)],[0],false⟩
 |4=>some ⟨3,[(4,true,false),(5,false,false),(6,false,false)],[0,10],false⟩
 |5=>some ⟨1,[(7,true,false)],[0],false⟩
 |7=>some ⟨2,[(4,true,false),(5,true,false)],[1,2],true⟩
 |8=>some ⟨1,[(7,false,false),(8,true,false)],[0],false⟩
 |9=>some ⟨1,[(7,false,false),(8,true,false),(9,false,true)],[0,1],false⟩
 |10=>some ⟨1,[],[0,11],false⟩
 |11=>some ⟨4,[],[0,3,12],false⟩
 |12=>some ⟨3,[(4,true,false),(7,false,false),(8,true,false)],[0,1],false⟩
 |13=>some ⟨1,[(7,true,false)],[0],false⟩
 |14=>some ⟨1,[(7,false,false)],[0],false⟩
 |15=>some ⟨4,[(7,false,false)],[0],false⟩
 |16=>some ⟨4,[(8,true,false)],[1,2],true⟩
 |_=>none
def KRow.has(r:KRow)(i:Nat):Bool:=r.nums.any (fun x=>x.1==i)||r.more.contains i
def VH(s:List UInt8):Bool:=s.length==3&&s.all fun b=>decide (65<=b.toNat)&&decide (b.toNat<=90)
def Zbz(a:List UInt8):Nat:=if a.head?=some 45 then a.length-1 else a.length
def Fct.num(f:Fct)(i:Nat):Fr:=
 match i with
 |4=>⟨f.q,[]⟩
 |5=>⟨f.amount,[]⟩
 |6=>⟨f.fee,[]⟩
 |7=>f.price
 |8=>f.ratio
 |9=>f.share
 |_=>⟨[],[]⟩
def Fct.none(f:Fct)(i:Nat):Bool:=
 match i with
 |0=>f.inst==[]
 |1=>f.other==[]
 |2=>f.cur==[]
 |3=>f.target==[]
 |10=>f.picks.isEmpty
 |11=>f.options.isEmpty
 |12=>f.choice==0
 |i=>decide (f.num i=⟨[],[]⟩)
def Xr(pos part:Bool)(f:Fr):Int:=
 if ¬f.ok then 1 else if 40<Zbz f.n\/40<Zbz f.d then 4 else if f.rat<0\/(pos=true/\f.rat=0)\/(part=true/\1<f.rat) then 2 else 0
def Yg:List Pk->List Pk->Int->Int×Int
 |[],_,sum=>(0,sum)
 |p::ps,pre,sum=>
  if idB p.lot=false then(23,sum) else if pre.any (fun x=>x.lot==p.lot) then(5,sum)
  else if Xr true false ⟨p.q,[]⟩≠0 then(Xr true false ⟨p.q,[]⟩,sum) else Yg ps (pre++[p]) (sum+val p.q)
def Jb(f:Fct):Int:=
 if 64<f.picks.length then 4 else if(Yg f.picks [] 0).1≠0 then(Yg f.picks [] 0).1 else if val f.q<(Yg f.picks [] 0).2 then 15 else 0
def Jc(inst:List UInt8):List Opn->Int
 |[]=>0
 |o::os=>
  if o.other≠[]/\Qw o.other=false then 23 else if o.other=inst then 18
  else if Xr false false o.ratio≠0 then Xr false false o.ratio else if Xr false false o.price≠0 then Xr false false o.price else if Xr false false o.value≠0 then Xr false false o.value
  else if decide (o.other≠[])≠decide (o.ratio≠⟨[],[]⟩)\/(o.other=[]/\o.value≠⟨[],[]⟩) then 2 else Jc inst os
def Za4(f:Fct):Int:=if f.options.length=0 then 11 else if 8<f.options.length then 4 else Jc f.inst f.options
def Yn(f:Fct)(r:KRow)(i:Nat):Int:=
 match i with
 |0=>if Qw f.inst=false then 23 else 0
 |1=>if r.code=true then(if VH f.other=false then 12 else if f.other=f.cur then 18 else 0) else if Qw f.other=false then 23 else if f.other=f.inst then 18 else 0
 |2=>if VH f.cur=false then 12 else 0
 |3=>if Qw f.target=false then 23 else 0
 |10=>Jb f
 |11=>Za4 f
 |12=>if f.choice<0 then 2 else 0
 |i=>match r.nums.find? (fun x=>x.1==i) with
  |some (_,pos,part)=>Xr pos part (f.num i)
  |none=>0
def YL(f:Fct)(r:KRow)(i:Nat):Nat->Int
 |0=>0
 |n+1=>
  if r.has i=true then(if Yn f r i≠0 then Yn f r i else YL f r (i+1) n)
  else if f.none i=false then 1 else YL f r (i+1) n
def Qo(f:Fct):Int:=
 if Qw f.key=false then 23 else if f.stamp<0 then 2
 else if f.cancelled=true then(if f=⟨f.key,f.stamp,true,0,0,[],[],[],[],[],[],[],⟨[],[]⟩,⟨[],[]⟩,⟨[],[]⟩,[],[],0⟩ then 0 else 1)
 else if f.day< -25567\/84005<f.day then 13
 else match XE f.kind with
  |none=>7
  |some r=>YL f r 0 13
end
section
open Go
def ZbP(s t:List UInt8):Int:=if Op.bytesLess s t=true then-1 else if Op.bytesLess t s=true then 1 else 0
def Yb(a b:Int):Int:=if a<b then-1 else if b<a then 1 else 0
def QN(k:Int):Int:=match XE k with
 |some r=>r.cls
 |none=>0
def Xl(f g:Fct):Int:=if Yb f.day g.day≠0 then Yb f.day g.day else if Yb (QN f.kind) (QN g.kind)≠0 then Yb (QN f.kind) (QN g.kind) else ZbP f.key g.key
def Zao(p:Option Int)(s:Int):Bool:=match p with
 |some t=>decide (s<t)
 |none=>false
def Zbf(p:Option Fct)(f:Fct):Bool:=match p with
 |some g=>decide (0<=Xl g f)
 |none=>false
def Zap:Option Int->List Fct->Int
 |_,[]=>0
 |p,f::fs=>if Qo f≠0 then Qo f else if Zao p f.stamp=true then 8 else Zap (some f.stamp) fs
def VA(l:List Fct):Int:=if 1000<l.length then 4 else Zap none l
def QQ(seen:List (List UInt8)):List Fct->List Fct
 |[]=>[]
 |f::fs=>if seen.contains f.key=true then QQ seen fs else f::QQ (f.key::seen) fs
def YS(l:List Fct):List Fct:=QQ [] l.reverse
def XL(f:Fct):Fct:={f with stamp:=0}
def Vo(f:Fct):List Fct->List Fct
 |[]=>[f]
 |g::gs=>if Xl f g<0 then f::g::gs else g::Vo f gs
def Vr:List Fct->List Fct
 |[]=>[]
 |f::fs=>Vo f (Vr fs)
def VF(l:List Fct):List Fct:=Vr (((YS l).filter fun f=> !f.cancelled).map XL)
def ofV(l:List Fct)(k:Int):List Fct×Int:=if VA l≠0 then([],1) else if k<0\/(l.length:Int)<k then([],2) else(VF (l.take k.toNat),0)
def ZbQ:List Fct->List Fct->Int
 |_,[]=>0
 |pre,f::fs=>
  if Qo f≠0 then Qo f else if f.cancelled=true then 19 else if f.stamp≠0 then 1 else if(pre.any fun g=>g.key==f.key)=true then 5
  else if Zbf pre.getLast? f=true then 8 else ZbQ (pre++[f]) fs
def XO(v:List Fct):Int:=if 1000<v.length then 4 else ZbQ [] v
def VB(v:List Fct)(d:Int):List Fct×Int:=if XO v≠0 then([],1) else if d< -25567\/84005<d then([],13) else(v.filter fun f=>decide (f.day<=d),0)
def Yk(v:List Fct)(f:Fct):List Fct:=if f.cancelled=true then v.filter fun x=>x.key !=f.key else Vo (XL f) (v.filter fun x=>x.key !=f.key)
def VC(v:List Fct)(f:Fct):List Fct×Int:=if XO v≠0 then([],1) else if Qo f≠0 then([],Qo f) else if 1000<(Yk v f).length then([],4) else(Yk v f,0)
def Xm(l:List Fct)(key:List UInt8):Option Fct:=l.reverse.find? fun f=>f.key==key
def Xi(a b:List Fct):List Fct:=a.filter fun f=>decide (Xm b f.key≠some f)
def Zcr(s:List UInt8):List (List UInt8)->List (List UInt8)
 |[]=>[s]
 |t::ts=>if Op.bytesLess s t=true then s::t::ts else if Op.bytesLess t s=true then t::Zcr s ts else t::ts
def ZaT:List (List UInt8)->List (List UInt8)
 |[]=>[]
 |s::ss=>Zcr s (ZaT ss)
def ZfW(a b:List Fct):List (List UInt8)×Int:=if XO a≠0\/XO b≠0 then([],1) else(ZaT ((Xi a b++Xi b a).map (·.key)),0)
def Yc(p:Int×Bool)(f:Fct):Int×Bool:=if p.2=false\/f.day<p.1 then(f.day,true) else p
def ZbR(a b:List Fct):Int×Bool×Int:=if XO a≠0\/XO b≠0 then(0,false,1) else(((Xi a b++Xi b a).foldl Yc (0,false)).1,((Xi a b++Xi b a).foldl Yc (0,false)).2,0)
end
section
open Go
def XH(key:List UInt8)(stamp day:Int):Fct:=⟨key,stamp,false,day,1,[],[],[85,83,68],[],[],[53],[],⟨[],[]⟩,⟨[],[]⟩,⟨[],[]⟩,[],[],0⟩
def ZhT:Fct:=⟨[98],4,true,0,0,[],[],[],[],[],[],[],⟨[],[]⟩,⟨[],[]⟩,⟨[],[]⟩,[],[],0⟩
def aw4:List Fct:=[XH [97] 1 5,XH [98] 2 3,XH [97] 3 2,ZhT]
def awX:List Fct:=[XH [98] 0 3,XH [97] 0 5]
def awY:List Fct:=[XH [97] 0 2,XH [98] 0 3]
def awZ:List Fct:=[XH [97] 0 2]
theorem ZiE:ofV aw4 2=(awX,0):=by decide+kernel
theorem ZiF:ofV aw4 3=(awY,0):=by decide+kernel
theorem ZiG:ofV aw4 4=(awZ,0):=by decide+kernel
theorem Zgx:ZbR awX awY=(2,true,0):=by decide+kernel
theorem ZiH:ZfW awX awY=([[97]],0):=by decide+kernel
end
section
open Go
theorem blt:∀(x y:List UInt8),(Op.bytesLess x y=true)↔x<y
 |[],[]=>by simp[Op.bytesLess]
 |[],_::_=>by simp[Op.bytesLess]
 |_::_,[]=>by simp[Op.bytesLess]
 |a::x,b::y=>by
  have ih:=blt x y;simp only[Op.bytesLess,List.cons_lt_cons_iff,Bool.or_eq_true,Bool.and_eq_true,decide_eq_true_eq,beq_iff_eq,ih]
theorem Vg(x y:List UInt8):x<y\/x=y\/y<x:=by
 rcases Decidable.em (x<y) with h|h
 ·exact .inl h
 ·rcases Decidable.em (y<x) with h2|h2
  ·exact .inr (.inr h2)
  ·exact .inr (.inl (List.le_antisymm (List.not_lt.1 h2) (List.not_lt.1 h)))
theorem Zgy{x y:List UInt8}(h:x<y):¬y<x:=fun h2=>List.lt_irrefl x (List.lt_trans h h2)
theorem ZhV(s t:List UInt8):ZbP s t<0↔s<t:=by
 unfold ZbP
 by_cases h:s<t
 ·rw[if_pos ((blt s t).2 h)];exact⟨fun _=>h,fun _=>by decide⟩
 ·rw[if_neg (fun e=>h ((blt s t).1 e))]
  split<;>exact⟨fun e=>absurd e (by decide),fun e=>absurd e h⟩
def VE(f g:Fct):Prop:=f.day<g.day\/(f.day=g.day/\(QN f.kind<QN g.kind\/(QN f.kind=QN g.kind/\f.key<g.key)))
theorem Zea(a b:Int):Yb a b<0↔a<b:=by unfold Yb;split<;>(try split)<;>omega
theorem Zeb(a b:Int):Yb a b=0↔a=b:=by unfold Yb;split<;>(try split)<;>omega
theorem QW(f g:Fct):Xl f g<0↔VE f g:=by
 unfold Xl VE;have a1:=Zea f.day g.day;have a3:=Zeb f.day g.day;have b1:=Zea (QN f.kind) (QN g.kind);have b3:=Zeb (QN f.kind) (QN g.kind);have c1:=ZhV f.key g.key
 by_cases h:Yb f.day g.day=0
 ·rw[if_neg (by simpa using h)];have hd:=a3.1 h
  by_cases h2:Yb (QN f.kind) (QN g.kind)=0
  ·rw[if_neg (by simpa using h2)];have hc:=b3.1 h2;rw[c1]
   constructor
   ·intro hk;exact .inr ⟨hd,.inr ⟨hc,hk⟩⟩
   ·rintro(h4|⟨_,h4|⟨_,h4⟩⟩)
    ·omega
    ·omega
    ·exact h4
  ·rw[if_pos h2,b1];have hc:=mt b3.2 h2
   constructor
   ·intro h4;exact .inr ⟨hd,.inl h4⟩
   ·rintro(h4|⟨_,h4|⟨h4,_⟩⟩)
    ·omega
    ·exact h4
    ·exact absurd h4 hc
 ·rw[if_pos h,a1];have hd:=mt a3.2 h
  constructor
  ·exact .inl
  ·rintro(h4|⟨h4,_⟩)
   ·exact h4
   ·exact absurd h4 hd
theorem JU(f:Fct):¬VE f f:=by
 rintro(h|⟨_,h|⟨_,h⟩⟩)
 ·omega
 ·omega
 ·exact List.lt_irrefl _ h
theorem Xw{f g h:Fct}(h1:VE f g)(h2:VE g h):VE f h:=by
 unfold VE at*
 rcases h1 with a|⟨a,b|⟨b,c⟩⟩<;>rcases h2 with d|⟨d,e|⟨e,k⟩⟩
 ·exact .inl (by omega)
 ·exact .inl (by omega)
 ·exact .inl (by omega)
 ·exact .inl (by omega)
 ·exact .inr ⟨by omega,.inl (by omega)⟩
 ·exact .inr ⟨by omega,.inl (by omega)⟩
 ·exact .inl (by omega)
 ·exact .inr ⟨by omega,.inl (by omega)⟩
 ·exact .inr ⟨by omega,.inr ⟨by omega,List.lt_trans c k⟩⟩
theorem ZbX{f g:Fct}(h:f.key≠g.key):VE f g\/VE g f:=by
 unfold VE
 rcases Int.lt_trichotomy f.day g.day with a|a|a
 ·exact .inl (.inl a)
 ·rcases Int.lt_trichotomy (QN f.kind) (QN g.kind) with b|b|b
  ·exact .inl (.inr ⟨a,.inl b⟩)
  ·rcases Vg f.key g.key with c|c|c
   ·exact .inl (.inr ⟨a,.inr ⟨b,c⟩⟩)
   ·exact absurd c h
   ·exact .inr (.inr ⟨a.symm,.inr ⟨b.symm,c⟩⟩)
  ·exact .inr (.inr ⟨a.symm,.inl b⟩)
 ·exact .inr (.inl a)
abbrev JC(l:List Fct):Prop:=l.Pairwise VE
abbrev DK(l:List Fct):Prop:=l.Pairwise fun f g=>f.key≠g.key
theorem Zdu{α:Type}{r:α->α->Prop}(hi:∀x,¬r x x)(ht:∀x y z,r x y->r y z->r x z):∀{a b:List α},a.Pairwise r->b.Pairwise r->(∀x,x∈a↔x∈b)->a=b
 |[],[],_,_,_=>rfl
 |[],y::b,_,_,h=>by have:=(h y).2 (List.mem_cons_self ..);cases this
 |x::a,[],_,_,h=>by have:=(h x).1 (List.mem_cons_self ..);cases this
 |x::a,y::b,h1,h2,h=>by
  rw[List.pairwise_cons] at h1 h2
  have hxy:x=y:=by
   rcases List.mem_cons.1 ((h x).1 (List.mem_cons_self ..)) with e|e
   ·exact e
   ·rcases List.mem_cons.1 ((h y).2 (List.mem_cons_self ..)) with e2|e2
    ·exact e2.symm
    ·exact absurd (ht _ _ _ (h1.1 y e2) (h2.1 x e)) (hi x)
  subst hxy
  congr 1
  refine Zdu hi ht h1.2 h2.2 fun z=> ?_
  have hz:=h z;rw[List.mem_cons,List.mem_cons] at hz
  constructor
  ·intro hm
   rcases hz.1 (.inr hm) with e|e
   ·subst e;exact absurd (h1.1 z hm) (hi z)
   ·exact e
  ·intro hm
   rcases hz.2 (.inr hm) with e|e
   ·subst e;exact absurd (h2.1 z hm) (hi z)
   ·exact e
theorem Zec{a b:List Fct}(h1:JC a)(h2:JC b)(h:∀f,f∈a↔f∈b):a=b:=Zdu JU (fun _ _ _=>Xw) h1 h2 h
theorem VO(f g:Fct):∀l,g∈Vo f l↔g=f\/g∈l
 |[]=>by simp[Vo]
 |h::l=>by
  unfold Vo
  split
  ·simp
  ·rw[List.mem_cons,VO f g l,List.mem_cons]
   constructor
   ·rintro(h1|h1|h1)
    ·exact .inr (.inl h1)
    ·exact .inl h1
    ·exact .inr (.inr h1)
   ·rintro(h1|h1|h1)
    ·exact .inr (.inl h1)
    ·exact .inl h1
    ·exact .inr (.inr h1)
theorem Zay(f:Fct):∀{l:List Fct},JC l->(∀g∈l,g.key≠f.key)->JC (Vo f l)
 |[],_,_=>by simp[Vo,JC]
 |h::l,hs,hk=>by
  rw[JC,List.pairwise_cons] at hs;unfold Vo
  by_cases e:Xl f h<0
  ·rw[if_pos e];have hb:=(QW f h).1 e;refine List.pairwise_cons.2 ⟨fun g hg=> ?_,List.pairwise_cons.2 hs⟩
   rcases List.mem_cons.1 hg with rfl|hg
   ·exact hb
   ·exact Xw hb (hs.1 g hg)
  ·rw[if_neg e];refine List.pairwise_cons.2 ⟨fun g hg=> ?_,Zay f hs.2 fun g hg=>hk g (List.mem_cons_of_mem _ hg)⟩
   rcases(VO f g l).1 hg with rfl|hg
   ·rcases ZbX (hk h (List.mem_cons_self ..)) with h1|h1
    ·exact h1
    ·exact absurd ((QW _ _).2 h1) e
   ·exact hs.1 g hg
theorem Vh(g:Fct):∀l,g∈Vr l↔g∈l
 |[]=>by simp[Vr]
 |f::l=>by unfold Vr;rw[VO,Vh g l,List.mem_cons]
theorem Jo:∀{l:List Fct},DK l->JC (Vr l)
 |[],_=>by simp[Vr,JC]
 |f::l,h=>by
  rw[DK,List.pairwise_cons] at h;exact Zay f (Jo h.2) fun g hg=>(h.1 g ((Vh g l).1 hg)).symm
theorem ZcD(f:Fct):∀l,(Vo f l).length=l.length+1
 |[]=>rfl
 |g::l=>by unfold Vo;split<;>simp[ZcD f l]
theorem Zbo:∀l,(Vr l).length=l.length
 |[]=>rfl
 |f::l=>by unfold Vr;rw[ZcD,Zbo l];rfl
theorem ZeW{l:List Fct}(hs:JC l)(h:∀f∈l,∀g∈l,f.key=g.key->f=g):DK l:=by
 induction l with
 |nil=>exact List.Pairwise.nil
 |cons x l ih=>
  rw[JC,List.pairwise_cons] at hs;refine List.pairwise_cons.2 ⟨fun g hg e=> ?_,ih hs.2 fun f hf g hg=>h f (List.mem_cons_of_mem _ hf) g (List.mem_cons_of_mem _ hg)⟩;have:=h x (List.mem_cons_self ..) g (List.mem_cons_of_mem _ hg) e
  subst this;exact JU x (hs.1 x hg)
section
theorem Vi(f:Fct):∀(l:List Fct) (seen:List (List UInt8)),f∈QQ seen l↔f.key ∉ seen/\l.find? (fun x=>x.key==f.key)=some f
 |[],seen=>by simp[QQ]
 |g::l,seen=>by
  unfold QQ
  by_cases h:seen.contains g.key=true
  ·rw[if_pos h,Vi f l seen];have hg:g.key∈seen:=by simpa using h
   by_cases e:g.key=f.key
   ·rw[e] at hg;exact⟨fun h=>absurd hg h.1,fun h=>absurd hg h.1⟩
   ·rw[List.find?_cons_of_neg (by simpa using e)]
  ·rw[if_neg h,List.mem_cons,Vi f l (g.key::seen)];have hg:g.key ∉ seen:=by simpa using h
   by_cases e:g.key=f.key
   ·rw[List.find?_cons_of_pos (by simpa using e)]
    constructor
    ·rintro(rfl|⟨h1,_⟩)
     ·exact⟨hg,rfl⟩
     ·exact absurd (by rw[e];exact List.mem_cons_self ..) h1
    ·rintro⟨_,h2⟩;exact .inl (Option.some.inj h2).symm
   ·rw[List.find?_cons_of_neg (by simpa using e)]
    constructor
    ·rintro(rfl|⟨h1,h2⟩)
     ·exact absurd rfl e
     ·exact⟨fun h=>h1 (List.mem_cons_of_mem _ h),h2⟩
    ·rintro⟨h1,h2⟩;refine .inr ⟨fun h=> ?_,h2⟩
     rcases List.mem_cons.1 h with h|h
     ·exact e h.symm
     ·exact h1 h
theorem Zaz:∀(l:List Fct) (seen:List (List UInt8)),DK (QQ seen l)
 |[],_=>List.Pairwise.nil
 |g::l,seen=>by
  unfold QQ
  split
  ·exact Zaz l seen
  ·refine List.pairwise_cons.2 ⟨fun f hf e=> ?_,Zaz l _⟩;exact((Vi f l _).1 hf).1 (by rw[e];exact List.mem_cons_self ..)
end
theorem YC(f:Fct):∀(l:List Fct) (seen:List (List UInt8)),QQ seen (l++[f])=QQ seen l++if f.key∈seen\/f.key∈l.map (·.key) then[] else[f]
 |[],seen=>by
  simp only[List.nil_append,List.map_nil,List.not_mem_nil,or_false,QQ]
  by_cases h:f.key∈seen
  ·rw[if_pos (by simpa using h),if_pos h]
  ·rw[if_neg (by simpa using h),if_neg h]
 |g::l,seen=>by
  simp only[List.cons_append,QQ]
  by_cases h:seen.contains g.key=true
  ·rw[if_pos h,if_pos h,YC f l seen];have hg:g.key∈seen:=by simpa using h
   congr 1
   by_cases e:f.key=g.key
   ·rw[if_pos (.inl (e▸hg)),if_pos (.inl (e▸hg))]
   ·simp[e]
  ·rw[if_neg h,if_neg h,YC f l (g.key::seen),List.cons_append]
   congr 2
   by_cases e:f.key=g.key<;>simp[e]
theorem Zbp(f:Fct)(l:List Fct):f∈YS l↔Xm l f.key=some f:=by unfold YS Xm;rw[Vi];simp
theorem Zgz(l:List Fct):DK (YS l):=Zaz _ _
theorem ZeX{l:List Fct}{k:List UInt8}{f:Fct}(h:Xm l k=some f):f∈l:=by
 have:=List.mem_of_find?_eq_some h
 simpa using this
theorem Zdv(l:List Fct)(f:Fct)(k:List UInt8):Xm (l++[f]) k=if f.key=k then some f else Xm l k:=by
 unfold Xm;rw[List.reverse_append,List.reverse_singleton,List.singleton_append]
 by_cases e:f.key=k
 ·rw[List.find?_cons_of_pos (by simpa using e),if_pos e]
 ·rw[List.find?_cons_of_neg (by simpa using e),if_neg e]
theorem VP(g:Fct)(l:List Fct):g∈VF l↔∃f,Xm l g.key=some f/\f.cancelled=false/\g=XL f:=by
 unfold VF;rw[Vh,List.mem_map]
 constructor
 ·rintro⟨f,hf,rfl⟩;rw[List.mem_filter,Zbp] at hf;exact⟨f,hf.1,by simpa using hf.2,rfl⟩
 ·rintro⟨f,h1,h2,rfl⟩;refine⟨f,List.mem_filter.2 ⟨(Zbp f l).2 h1,by simp[h2]⟩,rfl⟩
theorem Zed(l:List Fct):DK (((YS l).filter fun f=> !f.cancelled).map XL):=by
 refine List.Pairwise.map _ (fun a b h=> ?_) ((Zgz l).sublist List.filter_sublist);exact h
theorem VQ(l:List Fct):JC (VF l):=Jo (Zed l)
theorem ZiI(l:List Fct):DK (VF l):=by
 refine ZeW (VQ l) fun f hf g hg e=> ?_
 obtain⟨x,h1,_,rfl⟩:=(VP f l).1 hf
 obtain⟨y,h2,_,rfl⟩:=(VP g l).1 hg
 rw[e] at h1;rw[h1] at h2;rw[Option.some.inj h2]
theorem ZbY(l:List Fct):(VF l).length<=l.length:=by
 unfold VF;rw[Zbo,List.length_map];refine Nat.le_trans (List.length_filter_le _ _) ?_;unfold YS
 have:∀(l:List Fct) seen,(QQ seen l).length<=l.length:=by
  intro l
  induction l with
  |nil=>intro _;simp[QQ]
  |cons f l ih=>intro seen;unfold QQ;split<;>simp<;>first|exact Nat.le_succ_of_le (ih _)|exact ih _
 have h:=this l.reverse [];rw[List.length_reverse] at h;exact h
end
section
open Go
theorem ZgP(f:Fct)(r:KRow)(i:Nat):Yn (XL f) r i=Yn f r i:=rfl
theorem ZgQ(f:Fct)(i:Nat):(XL f).none i=f.none i:=rfl
theorem Zbr(f:Fct)(r:KRow):∀(n i:Nat),YL (XL f) r i n=YL f r i n
 |0,_=>rfl
 |n+1,i=>by unfold YL;rw[ZgP,ZgQ,Zbr f r n (i+1)]
theorem Zei{f:Fct}(h:Qo f=0)(hc:f.cancelled=false):Qo (XL f)=0:=by
 unfold Qo at*
 rw[show(XL f).key=f.key from rfl,show(XL f).stamp=0 from rfl,show(XL f).cancelled=f.cancelled from rfl,show(XL f).day=f.day from rfl,show(XL f).kind=f.kind from rfl]
 by_cases h1:Qw f.key=false
 ·rw[if_pos h1] at h;cases h
 rw[if_neg h1] at h ⊢
 by_cases h2:f.stamp<0
 ·rw[if_pos h2] at h;cases h
 rw[if_neg h2] at h;rw[if_neg (by decide)];rw[if_neg (by rw[hc];decide)] at h ⊢
 by_cases h3:f.day< -25567\/84005<f.day
 ·rw[if_pos h3] at h;cases h
 rw[if_neg h3] at h ⊢
 cases hk:XE f.kind with
 |none=>rw[hk] at h;cases h
 |some r=>rw[hk] at h;exact(Zbr f r 13 0).trans h
structure LogOk (l:List Fct):Prop where
 len:l.length<=1000
 chk:∀f∈l,Qo f=0
 ord:l.Pairwise fun f g=>f.stamp<=g.stamp
theorem Zbs:∀(l:List Fct) (p:Option Int),Zap p l=0↔(∀f∈l,Qo f=0)/\(∀s f,p=some s->l.head?=some f->s<=f.stamp)/\l.Pairwise fun f g=>f.stamp<=g.stamp
 |[],p=>by simp[Zap]
 |f::l,p=>by
  have ih:=Zbs l (some f.stamp);unfold Zap
  by_cases h1:Qo f=0
  ·rw[if_neg (by simpa using h1)]
   by_cases h2:Zao p f.stamp=true
   ·rw[if_pos h2];refine⟨fun h=>(by cases h),fun h=> ?_⟩
    cases p with
    |none=>cases h2
    |some s=>have:=h.2.1 s f rfl rfl;simp[Zao] at h2;omega
   ·rw[if_neg h2,ih]
    constructor
    ·rintro⟨a,b,c⟩;refine⟨fun g hg=> ?_,fun s g hs hg=> ?_,List.pairwise_cons.2 ⟨fun g hg=> ?_,c⟩⟩
     ·rcases List.mem_cons.1 hg with rfl|hg
      ·exact h1
      ·exact a g hg
     ·subst hs;simp[Zao] at hg h2
      rw[<-hg];omega
     ·cases l with
      |nil=>cases hg
      |cons x l=>
       have hx:=b f.stamp x rfl rfl
       rcases List.mem_cons.1 hg with rfl|hg
       ·exact hx
       ·exact Int.le_trans hx ((List.pairwise_cons.1 c).1 g hg)
    ·rintro⟨a,b,c⟩;rw[List.pairwise_cons] at c;refine⟨fun g hg=>a g (List.mem_cons_of_mem _ hg),fun s g hs hg=> ?_,c.2⟩;injection hs with hs;subst hs;exact c.1 g (List.mem_of_mem_head? hg)
  ·rw[if_pos h1];exact⟨fun h=>absurd h h1,fun h=>absurd (h.1 f (List.mem_cons_self ..)) h1⟩
theorem Jr(l:List Fct):VA l=0↔LogOk l:=by
 unfold VA
 by_cases h:1000<l.length
 ·rw[if_pos h];exact⟨fun h=>(by cases h),fun h2=>by have:=h2.len;omega⟩
 ·rw[if_neg h,Zbs];exact⟨fun⟨a,_,c⟩=>⟨by omega,a,c⟩,fun h2=>⟨h2.chk,fun s f hs=>(by cases hs),h2.ord⟩⟩
theorem LogOk.sub{l m:List Fct}(h:LogOk l)(hs:m.Sublist l):LogOk m:=⟨Nat.le_trans hs.length_le h.len,fun f hf=>h.chk f (hs.subset hf),h.ord.sublist hs⟩
theorem LogOk.take{l:List Fct}(h:LogOk l)(k:Nat):LogOk (l.take k):=h.sub (List.take_sublist k l)
structure VwOk (v:List Fct):Prop where
 len:v.length<=1000
 chk:∀f∈v,Qo f=0/\f.cancelled=false/\f.stamp=0
 dk:DK v
 srt:JC v
theorem Zbt:∀(fs pre:List Fct),DK pre->JC pre->(ZbQ pre fs=0↔(∀f∈fs,Qo f=0/\f.cancelled=false/\f.stamp=0)/\DK (pre++fs)/\JC (pre++fs))
 |[],pre,hd,hs=>by rw[List.append_nil];exact⟨fun _=>⟨fun f h=>(by cases h),hd,hs⟩,fun _=>rfl⟩
 |f::fs,pre,hd,hs=>by
  unfold ZbQ
  have bad:∀(z:Int),z≠0->¬((∀g∈f::fs,Qo g=0/\g.cancelled=false/\g.stamp=0)/\DK (pre++f::fs)/\JC (pre++f::fs))->(z=0↔((∀g∈f::fs,Qo g=0/\g.cancelled=false/\g.stamp=0)/\DK (pre++f::fs)/\JC (pre++f::fs))):=
   fun z hz hn=>⟨fun h=>absurd h hz,fun h=>absurd h hn⟩
  by_cases h1:Qo f=0
  ·rw[if_neg (by simpa using h1)]
   by_cases h2:f.cancelled=true
   ·rw[if_pos h2]
    exact bad 19 (by decide) fun h=>by have:=(h.1 f (List.mem_cons_self ..)).2.1;rw[h2] at this;cases this
   rw[if_neg h2]
   by_cases h3:f.stamp=0
   ·rw[if_neg (by simpa using h3)]
    by_cases h4:(pre.any fun g=>g.key==f.key)=true
    ·rw[if_pos h4];refine bad 5 (by decide) fun h=> ?_
     obtain⟨g,hg,e⟩:=List.any_eq_true.1 h4
     exact(List.pairwise_append.1 h.2.1).2.2 g hg f (List.mem_cons_self ..) (by simpa using e)
    ·rw[if_neg h4]
     by_cases h5:Zbf pre.getLast? f=true
     ·rw[if_pos h5];refine bad 8 (by decide) fun h=> ?_
      cases hg:pre.getLast? with
      |none=>rw[hg] at h5;cases h5
      |some g=>
       rw[hg] at h5;have hb:=(List.pairwise_append.1 h.2.2).2.2 g (List.mem_of_getLast? hg) f (List.mem_cons_self ..);have:=(QW g f).2 hb
       simp[Zbf] at h5;omega
     ·rw[if_neg h5];have hk:∀g∈pre,g.key≠f.key:=fun g hg e=>h4 (List.any_eq_true.2 ⟨g,hg,by simpa using e⟩)
      have hd2:DK (pre++[f]):=List.pairwise_append.2 ⟨hd,List.pairwise_singleton ..,fun g hg x hx=>by rw[List.mem_singleton.1 hx];exact hk g hg⟩
      have hs2:JC (pre++[f]):=by
       refine List.pairwise_append.2 ⟨hs,List.pairwise_singleton ..,fun g hg x hx=> ?_⟩;rw[List.mem_singleton.1 hx]
       cases hl:pre.getLast? with
       |none=>rw[List.getLast?_eq_none_iff] at hl;subst hl;cases hg
       |some y=>
        rw[hl] at h5;have hyf:VE y f:=(QW y f).1 (by simp[Zbf] at h5;omega);obtain⟨ys,rfl⟩:=List.getLast?_eq_some_iff.1 hl
        rcases List.mem_append.1 hg with hg|hg
        ·exact Xw ((List.pairwise_append.1 hs).2.2 g hg y (List.mem_cons_self ..)) hyf
        ·rw[List.mem_singleton.1 hg];exact hyf
      rw[Zbt fs (pre++[f]) hd2 hs2,List.append_assoc,List.singleton_append]
      constructor
      ·rintro⟨a,b,c⟩;refine⟨fun g hg=> ?_,b,c⟩
       rcases List.mem_cons.1 hg with rfl|hg
       ·exact⟨h1,by simpa using h2,h3⟩
       ·exact a g hg
      ·rintro⟨a,b,c⟩;exact⟨fun g hg=>a g (List.mem_cons_of_mem _ hg),b,c⟩
   ·rw[if_pos h3];exact bad 1 (by decide) fun h=>h3 (h.1 f (List.mem_cons_self ..)).2.2
  ·rw[if_pos h1];exact bad _ h1 fun h=>h1 (h.1 f (List.mem_cons_self ..)).1
theorem Vk(v:List Fct):XO v=0↔VwOk v:=by
 unfold XO
 by_cases h:1000<v.length
 ·rw[if_pos h];exact⟨fun h=>(by cases h),fun h2=>by have:=h2.len;omega⟩
 ·rw[if_neg h,Zbt v [] List.Pairwise.nil List.Pairwise.nil];exact⟨fun⟨a,b,c⟩=>⟨by omega,a,b,c⟩,fun h2=>⟨h2.chk,h2.dk,h2.srt⟩⟩
theorem ZdD{l:List Fct}(h:LogOk l):VwOk (VF l):=
 ⟨Nat.le_trans (ZbY l) h.len,fun g hg=>by
  obtain⟨f,h1,h2,rfl⟩:=(VP g l).1 hg
  exact⟨Zei (h.chk f (ZeX h1)) h2,h2,rfl⟩,ZiI l,VQ l⟩
theorem Ze0(v:List Fct)(f g:Fct):g∈Yk v f↔(g∈v/\g.key≠f.key)\/(f.cancelled=false/\g=XL f):=by
 unfold Yk
 by_cases h:f.cancelled=true
 ·rw[if_pos h,List.mem_filter]
  constructor
  ·rintro⟨h1,h2⟩;exact .inl ⟨h1,by simpa using h2⟩
  ·rintro(⟨h1,h2⟩|⟨h1,_⟩)
   ·exact⟨h1,by simpa using h2⟩
   ·rw[h] at h1;cases h1
 ·rw[if_neg h,VO,List.mem_filter]
  constructor
  ·rintro(h1|⟨h1,h2⟩)
   ·exact .inr ⟨by simpa using h,h1⟩
   ·exact .inl ⟨h1,by simpa using h2⟩
  ·rintro(⟨h1,h2⟩|⟨_,h1⟩)
   ·exact .inr ⟨h1,by simpa using h2⟩
   ·exact .inl h1
theorem Ze1{v:List Fct}(h:JC v)(f:Fct):JC (Yk v f):=by
 unfold Yk
 split
 ·exact h.sublist List.filter_sublist
 ·refine Zay _ (h.sublist List.filter_sublist) fun g hg=> ?_
  have h2:g.key≠f.key:=by simpa using(List.mem_filter.1 hg).2
  exact h2
theorem Ze2{v:List Fct}{f:Fct}(h:VwOk v)(hf:Qo f=0)(hl:(Yk v f).length<=1000):VC v f=(Yk v f,0):=by
 unfold VC;rw[if_neg (by simpa using(Vk v).2 h),if_neg (by simpa using hf),if_neg (by omega)]
theorem ZgR(l:List Fct)(f:Fct):Yk (VF l) f=VF (l++[f]):=by
 refine Zec (Ze1 (VQ l) f) (VQ _) fun g=> ?_
 rw[Ze0,VP,VP,Zdv]
 by_cases e:f.key=g.key
 ·rw[if_pos e]
  constructor
  ·rintro(⟨_,h⟩|⟨h1,h2⟩)
   ·exact absurd e.symm h
   ·exact⟨f,rfl,h1,h2⟩
  ·rintro⟨x,h1,h2,h3⟩;injection h1 with h1;subst h1;exact .inr ⟨h2,h3⟩
 ·rw[if_neg e]
  constructor
  ·rintro(⟨h,_⟩|⟨_,h2⟩)
   ·exact h
   ·rw[h2] at e;exact absurd rfl e
  ·intro h;exact .inl ⟨h,fun h2=>e h2.symm⟩
theorem Ze3{l:List Fct}{k:Nat}{f:Fct}(h:l[k]?=some f):l.take (k+1)=l.take k++[f]:=by
 obtain⟨hk,rfl⟩:=List.getElem?_eq_some_iff.1 h
 rw[List.take_succ_eq_append_getElem hk]
theorem ZcM{l:List Fct}(h:LogOk l){k:Nat}{f:Fct}(hf:l[k]?=some f):VC (VF (l.take k)) f=(VF (l.take (k+1)),0)/\XO (VF (l.take (k+1)))=0:=by
 have h1:=ZdD (h.take (k+1));have h2:=ZgR (l.take k) f;rw[<-Ze3 hf] at h2;refine⟨?_,(Vk _).2 h1⟩;rw[Ze2 (ZdD (h.take k)) (h.chk f (List.mem_of_getElem? hf)) (by rw[h2];exact h1.len),h2]
end
section
open Go
theorem Zbw(d:Int):∀{v:List Fct},JC v->∃n,n<=v.length/\v.filter (fun f=>decide (f.day<=d))=v.take n/\∀i f,v[i]?=some f->(f.day<=d↔i<n)
 |[],_=>⟨0,Nat.le_refl _,rfl,fun i f h=>(by cases h)⟩
 |x::v,h=>by
  rw[JC,List.pairwise_cons] at h;obtain⟨n,h1,h2,h3⟩:=Zbw d h.2
  by_cases e:x.day<=d
  ·refine⟨n+1,by simpa using h1,by rw[List.filter_cons_of_pos (by simpa using e),h2];rfl,fun i f hi=> ?_⟩
   cases i with
   |zero=>simp at hi;subst hi;exact⟨fun _=>by omega,fun _=>e⟩
   |succ i=>rw[List.getElem?_cons_succ] at hi;have:=h3 i f hi;omega
  ·have hall:∀f∈v,¬f.day<=d:=fun f hf=>by
    have:=h.1 f hf
    unfold VE at this;omega
   refine⟨0,Nat.zero_le _,?_,fun i f hi=>⟨fun hd=> ?_,fun hn=>absurd hn (by omega)⟩⟩
   ·rw[List.filter_cons_of_neg (by simpa using e),List.take_zero,List.filter_eq_nil_iff];intro f hf;simpa using hall f hf
   ·rcases List.mem_cons.1 (List.mem_of_getElem? hi) with rfl|hm
    ·exact absurd hd e
    ·exact absurd hd (hall f hm)
theorem ZgW{v:List Fct}(h:VwOk v)(d:Int)(h1: -25567<=d)(h2:d<=84005):VB v d=(v.filter (fun f=>decide (f.day<=d)),0):=by
 unfold VB;rw[if_neg (by simpa using(Vk v).2 h),if_neg (by omega)]
theorem ZaI(s t:List UInt8):∀l,t∈Zcr s l↔t=s\/t∈l
 |[]=>by simp[Zcr]
 |x::l=>by
  unfold Zcr
  by_cases h1:Op.bytesLess s x=true
  ·rw[if_pos h1];simp
  ·rw[if_neg h1]
   by_cases h2:Op.bytesLess x s=true
   ·rw[if_pos h2,List.mem_cons,ZaI s t l,List.mem_cons]
    constructor
    ·rintro(h|h|h)
     ·exact .inr (.inl h)
     ·exact .inl h
     ·exact .inr (.inr h)
    ·rintro(h|h|h)
     ·exact .inr (.inl h)
     ·exact .inl h
     ·exact .inr (.inr h)
   ·rw[if_neg h2]
    have hsx:s=x:=by
     rcases Vg s x with h|h|h
     ·exact absurd ((blt s x).2 h) h1
     ·exact h
     ·exact absurd ((blt x s).2 h) h2
    subst hsx
    constructor
    ·intro h;exact .inr h
    ·rintro(rfl|h)
     ·exact List.mem_cons_self ..
     ·exact h
theorem ZcQ(t:List UInt8):∀l,t∈ZaT l↔t∈l
 |[]=>by simp[ZaT]
 |s::l=>by unfold ZaT;rw[ZaI,ZcQ t l,List.mem_cons]
theorem ZcR(s:List UInt8):∀{l:List (List UInt8)},l.Pairwise (·< ·)->(Zcr s l).Pairwise (·< ·)
 |[],_=>by simp[Zcr]
 |x::l,h=>by
  rw[List.pairwise_cons] at h;unfold Zcr
  by_cases h1:Op.bytesLess s x=true
  ·rw[if_pos h1];have h1:=(blt s x).1 h1;refine List.pairwise_cons.2 ⟨fun g hg=> ?_,List.pairwise_cons.2 h⟩
   rcases List.mem_cons.1 hg with rfl|hg
   ·exact h1
   ·exact List.lt_trans h1 (h.1 g hg)
  ·rw[if_neg h1]
   by_cases h2:Op.bytesLess x s=true
   ·rw[if_pos h2];refine List.pairwise_cons.2 ⟨fun g hg=> ?_,ZcR s h.2⟩
    rcases(ZaI s g l).1 hg with rfl|hg
    ·exact(blt _ _).1 h2
    ·exact h.1 g hg
   ·rw[if_neg h2];exact List.pairwise_cons.2 h
theorem ZcS:∀(l:List (List UInt8)),(ZaT l).Pairwise (·< ·)
 |[]=>List.Pairwise.nil
 |s::l=>ZcR s (ZcS l)
theorem ZgX{a b:List (List UInt8)}(h:b.Pairwise (·< ·))(hm:∀k,k∈b↔k∈a):b=ZaT a:=
 Zdu (fun x=>List.lt_irrefl x) (fun _ _ _=>List.lt_trans) h (ZcS a) fun k=>by rw[hm,ZcQ]
section
variable {a b:List Fct}
end
end
section
open Go
theorem ZgY{a b:List UInt8}:a<=b↔a<b\/a=b:=by
 constructor
 ·intro h
  rcases Vg a b with h1|h1|h1
  ·exact .inl h1
  ·exact .inr h1
  ·exact absurd h1 h
 ·rintro(h|rfl)
  ·exact fun h2=>List.lt_irrefl a (List.lt_trans h h2)
  ·exact List.lt_irrefl a
theorem ZdG{a b c:List UInt8}(h:a<=b)(k:b<=c):a<=c:=by
 rw[ZgY] at*
 rcases h with h|rfl
 ·rcases k with k|rfl
  ·exact .inl (List.lt_trans h k)
  ·exact .inl h
 ·exact k
def Xo(xs:List (List UInt8)):List (List UInt8):=xs.mergeSort fun x y=>decide (x<=y)
theorem Vm(xs:List (List UInt8)):(Xo xs).length=xs.length:=List.length_mergeSort xs
theorem Zb2(zs:List (List UInt8)):(Lib.compact zs).length<=zs.length:=by
 unfold Lib.compact Lib.compactUpTo;rw[List.length_map];exact Nat.le_trans (List.length_filter_le _ _) (by simp)
theorem ZaY(d:Array (List UInt8))(hs:∀i j,i<=j->j<d.size->d[i]! <=d[j]!)(m:Nat)(hm:m<=d.size):
 (Lib.compactUpTo d m).Pairwise (·< ·)/\(∀x,x∈Lib.compactUpTo d m↔∃j,j<m/\d[j]! =x):=by
 induction m with
 |zero=>exact⟨by unfold Lib.compactUpTo;simp,fun x=>by unfold Lib.compactUpTo;simp⟩
 |succ m ih=>
  obtain⟨h1,h2⟩:=ih (by omega)
  rw[Lib.compactUpTo_succ]
  by_cases hk:Lib.keeps d m=true
  ·rw[if_pos hk];refine⟨?_,fun x=> ?_⟩
   ·rw[List.pairwise_append];refine⟨h1,by simp,fun x hx y hy=> ?_⟩;simp at hy;subst hy;obtain⟨j,hj,rfl⟩:=(h2 x).1 hx
    unfold Lib.keeps at hk;simp only[decide_eq_true_eq] at hk;have h3:=hs j (m-1) (by omega) (by omega);have h4:=hs (m-1) m (by omega) (by omega)
    rcases hk with hk|hk
    ·omega
    ·rcases ZgY.1 h4 with h4|h4
     ·rcases ZgY.1 h3 with h3|h3
      ·exact List.lt_trans h3 h4
      ·rw[h3];exact h4
     ·exact absurd h4.symm hk
   ·rw[List.mem_append,h2];simp only[List.mem_singleton]
    constructor
    ·rintro(⟨j,hj,rfl⟩|rfl)
     ·exact⟨j,by omega,rfl⟩
     ·exact⟨m,by omega,rfl⟩
    ·rintro⟨j,hj,rfl⟩
     by_cases e:j=m
     ·subst e;exact .inr rfl
     ·exact .inl ⟨j,by omega,rfl⟩
  ·rw[if_neg hk,List.append_nil];refine⟨h1,fun x=> ?_⟩;rw[h2];unfold Lib.keeps at hk;simp only[decide_eq_true_eq,not_or,ne_eq,Decidable.not_not] at hk
   constructor
   ·rintro⟨j,hj,rfl⟩;exact⟨j,by omega,rfl⟩
   ·rintro⟨j,hj,rfl⟩
    by_cases e:j=m
    ·subst e;exact⟨j-1,by omega,hk.2.symm⟩
    ·exact⟨j,by omega,rfl⟩
theorem Zh8(xs:List (List UInt8)):Lib.compact (Xo xs)=ZaT xs:=by
 have hsorted:(Xo xs).Pairwise (fun a b=>a<=b):=by
  have:=List.pairwise_mergeSort (le:=fun x y:List UInt8=>decide (x<=y)) (fun a b c h k=>by rw[decide_eq_true_eq] at *; exact ZdG h k) (fun a b=>by
   rw[Bool.or_eq_true,decide_eq_true_eq,decide_eq_true_eq,ZgY,ZgY]
   rcases Vg a b with h|h|h
   ·exact .inl (.inl h)
   ·exact .inl (.inr h)
   ·exact .inr (.inl h)) xs
  exact this.imp (by simp)
 have hget:∀i,(h:i<(Xo xs).length)->(Xo xs).toArray[i]! =(Xo xs)[i]:=fun i hi=>by simp[hi]
 have hs:∀i j,i<=j->j<(Xo xs).toArray.size->(Xo xs).toArray[i]! <=(Xo xs).toArray[j]! :=by
  intro i j hij hj;have hj':j<(Xo xs).length:=by simpa using hj
  rw[hget i (by omega),hget j hj']
  rcases Nat.lt_or_ge i j with h|h
  ·exact List.pairwise_iff_getElem.1 hsorted i j (by omega) hj' h
  ·have:i=j:=by omega
   subst this;exact List.lt_irrefl _
 obtain⟨h1,h2⟩:=ZaY (Xo xs).toArray hs (Xo xs).length (by simp)
 refine ZgX h1 fun x=> ?_
 show x∈Lib.compactUpTo _ _↔_
 rw[h2];have hp:x∈Xo xs↔x∈xs:=(List.mergeSort_perm xs _).mem_iff;rw[<-hp,List.mem_iff_getElem]
 constructor
 ·rintro⟨j,hj,rfl⟩;exact⟨j,hj,(hget j hj).symm⟩
 ·rintro⟨j,hj,rfl⟩;exact⟨j,hj,hget j hj⟩
end
end Go.Proofs.YtbcnkcldlealjaaGreatDoor
