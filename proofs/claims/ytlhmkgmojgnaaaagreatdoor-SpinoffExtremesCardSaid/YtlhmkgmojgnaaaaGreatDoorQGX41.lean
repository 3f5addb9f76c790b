/- Lp2, Lp3, Lt0, Fk0, Lp4, Lp5, Lp6, Lp7, Lp8, Lp9, Lz. -/
import Derived.Test.YtlhmkgmojgnaaaaGreatDoorQGX1
import Derived.Lib.AtoiAllCases
import Derived.Lib.IndexLaws
namespace Go.Proofs.YtlhmkgmojgnaaaaGreatDoor
section
open Go.RowKit Go.Shelf
def Zjk(n:List Int)(i:Nat):Nat:=(n.take i).countP (fun a=>decide (a≠0))
def Plan.mv(x:Plan)(i:Nat):Int:=x.m.getD i 0-x.f.getD i 0
def Plan.rest(x:Plan)(i:Nat):Int:=(((List.range i).filter fun k=>decide (x.n.getD k 0=0)).map x.mv).sum
def Zjl(c:List UInt8)(k:Nat):List UInt8:=c++47::QI k
def ZjD(m:Mp)(x:Plan)(len i:Nat)(y:Lot):Lot:=
 {id:=Zjl m.cause (Zjk x.n i+1),inst:=m.other,acq:=y.acq,opn:=y.opn,q:=Qa (x.n.getD i 0),c:=Qa (x.mv i+if Zjk x.n i=0 then x.rest len else 0),u:=Qa (x.n.getD i 0)}
def ZhO(m:Mp)(x:Plan)(old:List Lot)(i:Nat):List (Nat×Lot):=
 (List.range i).filterMap fun k=>match old[k]? with|some y=>if x.n.getD k 0=0 then none else some (k,ZjD m x old.length k y)|none=>none
def ZiT(m:Mp)(x:Plan)(old:List Lot):List (Nat×Lot):=ZhO m x old old.length
def Zf7(m:Mp)(x:Plan)(old:List Lot):List Lot:=(ZiT m x old).map (·.2)
def ZaD(m:Mp)(ms:List Int):Nat->List Lot->List Lot
 |_,[]=>[]
 |k,y::l=>if y.inst=m.inst then(if m.keep=true then {y with c:=Qa (val y.c-ms.getD k 0)}::ZaD m ms (k+1) l else ZaD m ms (k+1) l) else y::ZaD m ms k l
structure Gain where
 cause:List UInt8
 lot:List UInt8
 inst:List UInt8
 acq:Int
 closed:Int
 q:List UInt8
 proceeds:List UInt8
 cost:List UInt8
 deferred:List UInt8
 replaced:List UInt8
deriving DecidableEq
structure Stp where
 cause:List UInt8
 src:List UInt8
 dst:List UInt8
 q:List UInt8
 made:List UInt8
 cost:List UInt8
deriving DecidableEq
def Js(m:Mp)(x:Plan)(old:List Lot)(i:Nat):List Gain:=
 (List.range i).filterMap fun k=>match old[k]? with
   |some y=>if x.p.getD k 0=0/\x.f.getD k 0=0 then none else some {cause:=m.cause,lot:=y.id,inst:=m.other,acq:=y.acq,closed:=m.day,q:=[],proceeds:=Qa (x.p.getD k 0),cost:=Qa (x.f.getD k 0),deferred:=[],replaced:=[]}
   |none=>none
def Zf8(m:Mp)(x:Plan)(old:List Lot):List Gain:=if x.part=0 then[] else Js m x old old.length
structure Res where
 lots:List Lot
 gains:List Gain
 steps:List Stp
def Res.none:Res:=⟨[],[],[]⟩
theorem Zf9(a:List UInt8):leS a a=true:=by unfold leS;simp
structure CutAt (i:List UInt8) (A B:List Lot):Prop where
 b:∀y∈B,leS y.inst i=false
 a:A=[]\/∃A' y,A=A'++[y]/\leS y.inst i=true
theorem CutAt.at_{i:List UInt8}{A B:List Lot}(h:CutAt i A B):Zev (A++B) i=A.length:=by
 unfold Zev
 have e:((A++B).reverse.takeWhile (fun y=> !leS y.inst i))=B.reverse:=by
  rw[List.reverse_append,List.takeWhile_append_of_pos (fun y hy=>by simp[h.b y (by simpa using hy)])]
  have e2:A.reverse.takeWhile (fun y=> !leS y.inst i)=[]:=by
   rcases h.a with rfl|⟨A',y,rfl,hy⟩
   ·rfl
   ·rw[List.reverse_append];simp[hy]
  rw[e2,List.append_nil]
 rw[e];simp
theorem CutAt.put{A B:List Lot}{x:Lot}(h:CutAt x.inst A B):Zjj (A++B) x=A++x::B:=by
 unfold Zjj;rw[h.at_,List.take_left,List.drop_left]
theorem CutAt.next{A B:List Lot}{x:Lot}(h:CutAt x.inst A B):CutAt x.inst (A++[x]) B:=⟨h.b,.inr ⟨A,x,rfl,Zf9 _⟩⟩
theorem LotsOk.put{l:List Lot}{x:Lot}(h:LotsOk l)(hx:x.Ok)(hid:x.id ∉ l.map (·.id))(hl:l.length<1000){A B:List Lot}(e:l=A++B):LotsOk (A++x::B):=by
 subst e;have hp:(A++x::B).Perm (x::(A++B)):=List.perm_middle;refine⟨?_,?_,?_⟩
 ·rw[hp.length_eq];simp at hl ⊢; omega
 ·intro y hy
  rcases List.mem_cons.1 (hp.mem_iff.1 hy) with rfl|hy
  ·exact hx
  ·exact h.ok y hy
 ·rw[(hp.map (·.id)).nodup_iff,List.map_cons,List.nodup_cons];exact⟨hid,h.ids⟩
end
section
open Go.RowKit Go.Shelf
theorem ZdN(old:List Lot)(m:Mp):(QS old m).n.length=old.length/\(QS old m).m.length=old.length/\(QS old m).f.length=old.length/\(QS old m).p.length=old.length:=by
 unfold QS;simp[JP]
theorem ZdO{old:List Lot}{m:Mp}(h:∀y∈old,y.Ok)(hm:m.Ok)(ho:old≠[]):
 (QS old m).n.sum=(QS old m).parts/\(QS old m).m.sum=(QS old m).moved/\(QS old m).f.sum=(QS old m).taken/\(QS old m).p.sum=(QS old m).cash/\0<(old.map fun y=>val y.q).sum:=by
 obtain⟨hq,hc⟩:=ZaC h
 have hok:=ZcS h hm
 have hqs:0<(old.map fun y=>val y.q).sum:=by
  cases old with
  |nil=>exact absurd rfl ho
  |cons a l=>
   have h1:=(h a (by simp)).q0;have h2:=Zex hq (x:=val a.q) (by simp);omega
 have hm1:=hok.moved1;have hm0:=hok.moved0;have hms:(QS old m).m.sum=(QS old m).moved:=VY hc (by show 0<_\/(QS old m).moved=0;omega);refine⟨VY hq (.inl hqs),hms,?_,VY hq (.inl hqs),hqs⟩;have hmn:∀z∈(QS old m).m,0<=z:=ZcQ hok.moved0 hc;have ht0:=hok.taken0;have ht1:=hok.taken1;exact VY hmn (by show 0<(QS old m).m.sum\/(QS old m).taken=0;rw[hms];omega)
theorem ZeY(m:Mp)(ms:List Int)(k:Nat)(l:List Lot):((ZaD m ms k l).map (·.id)).Sublist (l.map (·.id)):=by
 induction l generalizing k with
 |nil=>simp[ZaD]
 |cons a l ih=>
  unfold ZaD
  split
  ·split
   ·simp only[List.map_cons];exact(ih (k+1)).cons_cons _
   ·exact(ih (k+1)).cons _
  ·exact(ih k).cons_cons _
theorem Zbt{ls:List Lot}(h:LotsOk ls)(i:List UInt8):∀y∈Qb ls i,y.Ok:=fun y hy=>h.ok y (List.mem_filter.1 hy).1
structure MapOk (ls:List Lot) (m:Mp) (A B:List Lot):Prop where
 ok:LotsOk ls
 mp:m.Ok
 old:Qb ls m.inst≠[]
 free:∀z∈Zf7 m (QS (Qb ls m.inst) m) (Qb ls m.inst),z.id ∉ ls.map (·.id)
 cut:ZaD m (QS (Qb ls m.inst) m).m 0 ls=A++B
 at_:CutAt m.other A B
 len:(A++Zf7 m (QS (Qb ls m.inst) m) (Qb ls m.inst)++B).length<=1000
end
section
open Go.RowKit Go.Shelf
theorem ZeZ(l:List UInt8)(h:l.all Qw=true):∀acc:Nat,acc*10^l.length+Qj l<1000000000000000000->Lib.parseUint10 acc l=.ok (acc*10^l.length+Qj l):=by
 induction l with
 |nil=>intro acc _;simp[Lib.parseUint10,Qj]
 |cons b l ih=>
  intro acc hb;simp only[List.all_cons,Bool.and_eq_true] at h;have h1:=(Xf b).1 h.1
  have e:Qj (b::l)=(b.toNat-48)*10^l.length+Qj l:=by
   have:=YV [b] l
   simpa[Qj] using this
  rw[e,List.length_cons,Nat.pow_succ] at hb ⊢;have hp:1<=10^l.length:=Nat.pow_pos (by omega)
  have e2:acc*(10^l.length*10)+((b.toNat-48)*10^l.length+Qj l)=(acc*10+(b.toNat-48))*10^l.length+Qj l:=by
   rw[Nat.add_mul,Nat.mul_assoc,Nat.mul_comm 10,Nat.add_assoc]
  rw[e2] at hb ⊢;have h3:acc*10+(b.toNat-48)<=(acc*10+(b.toNat-48))*10^l.length:=Nat.le_mul_of_pos_right _ hp;unfold Lib.parseUint10;rw[if_pos (by omega),if_neg (by omega),if_neg (by omega)];exact ih h.2 _ hb
theorem Zga{l:List UInt8}(h:l.all Qw=true)(hn:l≠[])(h4:l.length<=17):Lib.atoiAll l=.ok (Qj l:Int):=by
 cases l with
 |nil=>exact absurd rfl hn
 |cons b t=>
  have hb:=h;simp only[List.all_cons,Bool.and_eq_true] at hb;have h1:=(Xf b).1 hb.1;rw[Lib.atoiAll_plain b t (by omega) (by omega)];unfold Lib.parseMag;rw[if_neg (by simp)];have hv:=VV h;have hp:10^(b::t).length<=10^17:=Nat.pow_le_pow_right (by omega) h4;rw[ZeZ _ h 0 (by omega)];simp only[Nat.zero_mul,Nat.zero_add];unfold Lib.signless;simp only;rw[if_neg (by omega)]
theorem Ze0{k:Nat}(h1:1<=k)(h2:k<=9999):ZcG (QI k)=true:=by
 unfold ZcG;obtain⟨b,l,e,hb,_⟩:=Vp k (by omega)
 have h3:=JM (m:=k) (L:=4) (by omega);have h4:=ZcB k (by omega)
 have h5:(some b:Option UInt8)≠some 48:=fun e2=>by
  injection e2 with e2;subst e2;exact absurd hb (by decide)
 rw[VT,decide_eq_true h3,decide_eq_true h4,e,List.head?_cons,decide_eq_true h5];rfl
theorem Zbu(l:List UInt8):ZcG l=match Lib.atoiAll l with| .ok v=>decide (1<=v)&&(decide (v<=9999)&&(Lib.itoa v==l))|_=>false:=by
 by_cases h:ZcG l=true
 ·have h':=h;unfold ZcG at h';simp only[Bool.and_eq_true,decide_eq_true_eq] at h';obtain⟨⟨⟨a1,a2⟩,a3⟩,a4⟩:=h'
  have hne:l≠[]:=fun e=>by rw[e] at a1;simp at a1
  rw[h,Zga a4 hne (by omega)]
  have hd:QI (Qj l)=l:=Vr a4 (fun b t e=>by
   rw[e] at a3;simp only[List.head?_cons,ne_eq,Option.some.injEq] at a3;simpa using a3)
  have hv:Qj l<10^4:=Nat.lt_of_lt_of_le (VV a4) (Nat.pow_le_pow_right (by omega) a2);have h0:Qj l≠0:=fun e=>by rw[e] at hd;exact hne hd.symm
  have hi:Lib.itoa (Qj l:Int)=l:=by
   unfold Lib.itoa;rw[if_neg (by omega)]
   conv=>rhs;rw[<-hd]
   unfold QI;rw[if_neg h0];simp
  simp only[hi,beq_self_eq_true,Bool.and_true];rw[decide_eq_true (show(1:Int)<=(Qj l:Int) by omega),decide_eq_true (show(Qj l:Int)<=9999 by omega)];rfl
 ·have hf:ZcG l=false:=by simpa using h
  rw[hf]
  rcases ha:Lib.atoiAll l with v|_|_
  ·simp only
   cases h1:decide (1<=v) with
   |false=>rfl
   |true=>
    cases h2:decide (v<=9999) with
    |false=>rfl
    |true=>
     cases h3:Lib.itoa v==l with
     |false=>rfl
     |true=>
      exfalso
      apply h
      have h3:=eq_of_beq h3;simp only[decide_eq_true_eq] at h1 h2;rw[<-h3];unfold Lib.itoa;rw[if_neg (by omega)];have:=Ze0 (k:=v.toNat) (by omega) (by omega)
      unfold QI at this;rw[if_neg (by omega)] at this;simpa using this
  ·rfl
  ·rfl
def XL(s:List UInt8):List UInt8:=s.takeWhile (·!=47)
def YQ(s:List UInt8):List UInt8:=(s.dropWhile (·!=47)).drop 1
theorem Zbv(s:List UInt8):(47∈s->Lib.indexByte s 47=((XL s).length:Nat)/\(XL s).length<s.length/\s.take (XL s).length=XL s/\s.drop ((XL s).length+1)=YQ s)/\(47 ∉ s->Lib.indexByte s 47= -1/\XL s=s/\YQ s=[]):=by
 induction s with
 |nil=>exact⟨fun h=>by simp at h,fun _=>⟨rfl,rfl,rfl⟩⟩
 |cons b l ih=>
  by_cases hb:b=47
  ·subst hb;refine⟨fun _=> ?_,fun h=>absurd (List.mem_cons_self) h⟩;refine⟨rfl,by simp[XL],by simp[XL],?_⟩;simp[XL,YQ]
  ·have e1:XL (b::l)=b::XL l:=by unfold XL;rw[List.takeWhile_cons];simp[hb]
   have e2:YQ (b::l)=YQ l:=by unfold YQ;rw[List.dropWhile_cons];simp[hb]
   have hbb:(b==47)=false:=by simpa using hb
   constructor
   ·intro h
    have hl:47∈l:=by
     rcases List.mem_cons.1 h with e|h
     ·exact absurd e.symm hb
     ·exact h
    obtain⟨a1,a2,a3,a4⟩:=ih.1 hl
    refine⟨?_,?_,?_,?_⟩
    ·rw[Lib.indexByte,hbb,a1,e1];simp only[Bool.false_eq_true,if_false];rw[if_neg (by simp)];simp
    ·rw[e1];simp;omega
    ·rw[e1];simp[a3]
    ·rw[e1,e2];simpa using a4
   ·intro h;have hl:47 ∉ l:=fun hm=>h (List.mem_cons_of_mem b hm)
    obtain⟨a1,a2,a3⟩:=ih.2 hl
    refine⟨?_,by rw[e1,a2],by rw[e2,a3]⟩;rw[Lib.indexByte,hbb,a1];rfl
theorem Zgb(s:List UInt8):idB s=(ZcG (YQ s)&&Qp (XL s)):=by
 unfold idB
 by_cases h:47∈s
 ·rw[decide_eq_true h,Bool.true_and,Bool.and_comm];rfl
 ·rw[decide_eq_false h];have e:YQ s=[]:=((Zbv s).2 h).2.2;rw[e];rfl
end
section
structure Pk where
 lot:List UInt8
 q:List UInt8
deriving DecidableEq
structure Opn where
 other:List UInt8
 ratio:Fr
 price:Fr
 value:Fr
deriving DecidableEq
structure Fct where
 key:List UInt8
 stamp:Int
 cancelled:Bool
 day:Int
 kind:Int
 inst:List UInt8
 other:List UInt8
 cur:List UInt8
 target:List UInt8
 q:List UInt8
 amount:List UInt8
 fee:List UInt8
 price:Fr
 ratio:Fr
 share:Fr
 picks:List Pk
 options:List Opn
 choice:Int
deriving DecidableEq
structure KRow where
 cls:Int
 nums:List (Nat×Bool×Bool)
 more:List Nat
 code:Bool
def XM(k:Int):Option KRow:=
 match k with
 |1|2|6|17|18=>some ⟨2,[(5,true,false)],[2],false⟩
 |3=>some ⟨3,[(4,true,false),(5,false,false),(6,false,false)],[0],false⟩
 |4=>some ⟨3,[(4,true,false),(5,false,false),(6,false,false)],[0,10],false⟩
 |5=>some ⟨1,[(7,true,false)],[0],false⟩
 |7=>some ⟨2,[(4,true,false),(5,true,false)],[1,2],true⟩
 |8=>some ⟨1,[(7,false,false),(8,true,false)],[0],false⟩
 |9=>some ⟨1,[(7,false,false),(8,true,false),(9,false,true)],[0,1],false⟩
 |10=>some ⟨1,[],[0,11],false⟩
 |11=>some ⟨4,[],[0,3,12],false⟩
 |12=>some ⟨3,[(4,true,false),(7,false,false),(8,true,false)],[0,1],false⟩
 |13=>some ⟨1,[(7,true,false)],[0],false⟩
 |14=>some ⟨1,[(7,false,false)],[0],false⟩
 |15=>some ⟨4,[(7,false,false)],[0],false⟩
 |16=>some ⟨4,[(8,true,false)],[1,2],true⟩
 |_=>none
def KRow.has(r:KRow)(i:Nat):Bool:=r.nums.any (fun x=>x.1==i)||r.more.contains i
def VZ(s:List UInt8):Bool:=s.length==3&&s.all fun b=>decide (65<=b.toNat)&&decide (b.toNat<=90)
def Zb3(a:List UInt8):Nat:=if a.head?=some 45 then a.length-1 else a.length
def Fct.num(f:Fct)(i:Nat):Fr:=
 match i with
 |4=>⟨f.q,[]⟩
 |5=>⟨f.amount,[]⟩
 |6=>⟨f.fee,[]⟩
 |7=>f.price
 |8=>f.ratio
 |9=>f.share
 |_=>⟨[],[]⟩
def Fct.none(f:Fct)(i:Nat):Bool:=
 match i with
 |0=>f.inst==[]
 |1=>f.other==[]
 |2=>f.cur==[]
 |3=>f.target==[]
 |10=>f.picks.isEmpty
 |11=>f.options.isEmpty
 |12=>f.choice==0
 |i=>decide (f.num i=⟨[],[]⟩)
def QY(pos part:Bool)(f:Fr):Int:=
 if ¬f.ok then 1 else if 40<Zb3 f.n\/40<Zb3 f.d then 4 else if f.rat<0\/(pos=true/\f.rat=0)\/(part=true/\1<f.rat) then 2 else 0
def Yi:List Pk->List Pk->Int->Int×Int
 |[],_,sum=>(0,sum)
 |p::ps,pre,sum=>
  if idB p.lot=false then(23,sum) else if pre.any (fun x=>x.lot==p.lot) then(5,sum)
  else if QY true false ⟨p.q,[]⟩≠0 then(QY true false ⟨p.q,[]⟩,sum) else Yi ps (pre++[p]) (sum+val p.q)
def Jt(f:Fct):Int:=
 if 64<f.picks.length then 4 else if(Yi f.picks [] 0).1≠0 then(Yi f.picks [] 0).1 else if val f.q<(Yi f.picks [] 0).2 then 15 else 0
def Ju(inst:List UInt8):List Opn->Int
 |[]=>0
 |o::os=>
  if o.other≠[]/\Qp o.other=false then 23 else if o.other=inst then 18
  else if QY false false o.ratio≠0 then QY false false o.ratio else if QY false false o.price≠0 then QY false false o.price else if QY false false o.value≠0 then QY false false o.value
  else if decide (o.other≠[])≠decide (o.ratio≠⟨[],[]⟩)\/(o.other=[]/\o.value≠⟨[],[]⟩) then 2 else Ju inst os
def Zbw(f:Fct):Int:=if f.options.length=0 then 11 else if 8<f.options.length then 4 else Ju f.inst f.options
def Yc(f:Fct)(r:KRow)(i:Nat):Int:=
 match i with
 |0=>if Qp f.inst=false then 23 else 0
 |1=>if r.code=true then(if VZ f.other=false then 12 else if f.other=f.cur then 18 else 0) else if Qp f.other=false then 23 else if f.other=f.inst then 18 else 0
 |2=>if VZ f.cur=false then 12 else 0
 |3=>if Qp f.target=false then 23 else 0
 |10=>Jt f
 |11=>Zbw f
 |12=>if f.choice<0 then 2 else 0
 |i=>match r.nums.find? (fun x=>x.1==i) with
  |some (_,pos,part)=>QY pos part (f.num i)
  |none=>0
def XU(f:Fct)(r:KRow)(i:Nat):Nat->Int
 |0=>0
 |n+1=>
  if r.has i=true then(if Yc f r i≠0 then Yc f r i else XU f r (i+1) n)
  else if f.none i=false then 1 else XU f r (i+1) n
def Xk(f:Fct):Int:=
 if Qp f.key=false then 23 else if f.stamp<0 then 2
 else if f.cancelled=true then(if f=⟨f.key,f.stamp,true,0,0,[],[],[],[],[],[],[],⟨[],[]⟩,⟨[],[]⟩,⟨[],[]⟩,[],[],0⟩ then 0 else 1)
 else if f.day< -25567\/84005<f.day then 13
 else match XM f.kind with
  |none=>7
  |some r=>XU f r 0 13
end
section
open Go.RowKit Go.Shelf
theorem ZbQ(l:List Int):((List.range l.length).map (fun i=>l.getD i 0)).sum=l.sum:=by
 induction l with
 |nil=>rfl
 |cons a l ih=>
  rw[List.length_cons,List.range_succ_eq_map,List.map_cons,List.sum_cons,List.map_map,List.sum_cons,<-ih];rfl
theorem Vj(f:Nat->Int)(i:Nat):((List.range (i+1)).map f).sum=((List.range i).map f).sum+f i:=by
 rw[List.range_succ,List.map_append,QQ];simp
section
variable {ls:List Lot} {m:Mp}
end
end
section
open Go.RowKit Go.Shelf
def ZiM(ls l:List Lot):List Lot:=l.filter (fun x=>decide (x.id ∉ ls.map (·.id)))
section
variable {ls:List Lot} {m:Mp} {A B:List Lot}
abbrev Zha(ls:List Lot)(m:Mp):List Lot:=Qb ls m.inst
abbrev plO(ls:List Lot)(m:Mp):Plan:=QS (Qb ls m.inst) m
abbrev mdO(ls:List Lot)(m:Mp):List Lot:=Zf7 m (plO ls m) (Zha ls m)
theorem MapOk.ids(h:MapOk ls m A B):∀z∈A++B,z.id∈ls.map (·.id):=by
 intro z hz;rw[<-h.cut] at hz;exact(ZeY m _ 0 ls).subset (List.mem_map.2 ⟨z,hz,rfl⟩)
theorem MapOk.new(h:MapOk ls m A B):ZiM ls (A++mdO ls m++B)=mdO ls m:=by
 unfold ZiM
 have hA:A.filter (fun x=>decide (x.id ∉ ls.map (·.id)))=[]:=by
  rw[List.filter_eq_nil_iff];intro z hz;have:=h.ids z (by simp[hz])
  simpa using this
 have hB:B.filter (fun x=>decide (x.id ∉ ls.map (·.id)))=[]:=by
  rw[List.filter_eq_nil_iff];intro z hz;have:=h.ids z (by simp[hz])
  simpa using this
 rw[List.filter_append,List.filter_append,hA,hB,List.nil_append,List.append_nil,List.filter_eq_self];intro z hz;have:=h.free z hz
 simpa using this
theorem VQ(m:Mp)(x:Plan)(old:List Lot)(i:Nat)(hi:i<=old.length):
 ((Js m x old i).map (fun g=>val g.cost)).sum=((List.range i).map (fun k=>x.f.getD k 0)).sum/\((Js m x old i).map (fun g=>val g.proceeds)).sum=((List.range i).map (fun k=>x.p.getD k 0)).sum:=by
 induction i with
 |zero=>exact⟨rfl,rfl⟩
 |succ i ih=>
  obtain⟨h1,h2⟩:=ih (by omega)
  have e:Js m x old (i+1)=Js m x old i++(if x.p.getD i 0=0/\x.f.getD i 0=0 then[] else[{cause:=m.cause,lot:=(old[i]'(by omega)).id,inst:=m.other,acq:=(old[i]'(by omega)).acq,closed:=m.day,q:=[],proceeds:=Qa (x.p.getD i 0),cost:=Qa (x.f.getD i 0),deferred:=[],replaced:=[]}]):=by
   unfold Js;rw[List.range_succ,List.filterMap_append]
   congr 1
   simp only[List.filterMap_cons,List.filterMap_nil,List.getElem?_eq_getElem (show i<old.length by omega)]
   by_cases h:x.p.getD i 0=0/\x.f.getD i 0=0
   ·simp only[if_pos h]
   ·simp only[if_neg h]
  rw[e,List.map_append,List.map_append,QQ,QQ,h1,h2,Vj,Vj]
  by_cases h:x.p.getD i 0=0/\x.f.getD i 0=0
  ·rw[if_pos h,h.1,h.2];exact⟨by simp,by simp⟩
  ·rw[if_neg h];simp only[List.map_cons,List.map_nil,List.sum_cons,List.sum_nil,Qd];exact⟨by omega,by omega⟩
theorem MapOk.gains(h:MapOk ls m A B):((Zf8 m (plO ls m) (Zha ls m)).map (fun g=>val g.cost)).sum=(plO ls m).taken/\((Zf8 m (plO ls m) (Zha ls m)).map (fun g=>val g.proceeds)).sum=(plO ls m).cash:=by
 have hok:=ZcS (Zbt h.ok m.inst) h.mp;obtain⟨s1,s2,s3,s4,s5⟩:=ZdO (Zbt h.ok m.inst) h.mp h.old
 obtain⟨l1,l2,l3,l4⟩:=ZdN (Qb ls m.inst) m
 unfold Zf8
 by_cases hp:(plO ls m).part=0
 ·rw[if_pos hp,hok.whole hp,hok.cash1 hp];exact⟨rfl,rfl⟩
 ·rw[if_neg hp];obtain⟨e1,e2⟩:=VQ m (plO ls m) (Zha ls m) (Zha ls m).length (Nat.le_refl _)
  have f1:=ZbQ (plO ls m).f;have f2:=ZbQ (plO ls m).p;rw[l3] at f1;rw[l4] at f2;rw[e1,e2,f1,f2,s3,s4];exact⟨rfl,rfl⟩
end
end
section
open Go.RowKit Go.Shelf
theorem Za0{t:Int}{ws:List Int}(hS:0<ws.sum)(h:∀w∈ws,(t*w).fmod ws.sum=0):Xi t ws=ws.map (fun w=>(t*w).fdiv ws.sum):=by
 have hr:(QO t ws).sum=0:=by
  have hz:∀r∈QO t ws,r=0:=by
   intro r hr;obtain⟨w,hw,rfl⟩:=List.mem_map.1 hr
   exact h w hw
  generalize QO t ws=l at*
  induction l with
  |nil=>rfl
  |cons a l ih=>
   rw[List.sum_cons,hz a (by simp),ih (fun r hr=>hz r (by simp[hr]))];rfl
 rw[Zaz] at hr
 have hm:Xp t ws=0:=by
  rcases Int.mul_eq_zero.1 hr with h0|h0
  ·omega
  ·exact h0
 have hu:upL t ws=[]:=by unfold upL;rw[hm];rfl
 unfold Xi;rw[hu];unfold QJ;refine List.ext_getElem? fun i=> ?_
 simp
 rfl
end
section
open Go.RowKit Go.Shelf
end
section
open Go.RowKit Go.Shelf
section
variable {ls:List Lot} {m:Mp}
end
end
section
open Go.RowKit Go.Shelf
def YN(l:List Lot)(i:List UInt8)(g:Lot->Int):Int:=((Qb l i).map g).sum
def Mp.none:Mp:=⟨[],0,[],[],Fr.zero,Fr.zero,Fr.zero,false⟩
end
section
open Go.RowKit Go.Shelf
theorem Zjd{q:Rat}{K:Nat}(h:RB K q)(hK:1<=K):(rnd q).natAbs<10^(K+1):=by
 have h1:=Zf3 q;have h2:=(VL q).2;have h3:=h.1;have h4:10^(K+1)=10*10^K:=by rw[Nat.pow_add,Nat.mul_comm]
 have h5:10^1<=10^K:=Nat.pow_le_pow_right (by omega) hK;rw[h4];generalize 10^K=P at*
 rcases h2 with h2|⟨h2,_⟩<;>omega
theorem Ziy{p q:Rat}{K:Nat}(hp:RB K p)(hq:RB K q):RB (K+K+2) (p*q):=by
 have h:=Zf0 (YB hp) (YB hq) (by omega);rw[Ql,Ql] at h;exact h.more (by omega)
theorem Zje{k:Int}{K:Nat}(h:k.natAbs<10^K)(hK:1<=K):RB K ((k:Int):Rat):=by
 refine⟨by simpa using h,?_⟩;have:10^1<=10^K:=Nat.pow_le_pow_right (by omega) hK
 simp
 omega
end
end Go.Proofs.YtlhmkgmojgnaaaaGreatDoor
