/- A0, W0, Lp1. -/
import Derived.Test.YtlhmkgmojgnaaaaGreatDoorQGX16
namespace Go.Proofs.YtlhmkgmojgnaaaaGreatDoor
open Go.RowKit Go.Shelf
section
def QJ(t:Int)(ws:List Int):List Int:=ws.map fun w=>(t*w).fdiv ws.sum
def QO(t:Int)(ws:List Int):List Int:=ws.map fun w=>(t*w).fmod ws.sum
def Xp(t:Int)(ws:List Int):Int:=t-(QJ t ws).sum
def YY(rs:List Int)(i k:Nat):Bool:=decide (rs.getD k 0<rs.getD i 0\/(rs.getD i 0=rs.getD k 0/\i<=k))
def Yo(rs:List Int):List Nat:=(List.range rs.length).mergeSort (YY rs)
def upL(t:Int)(ws:List Int):List Nat:=(Yo (QO t ws)).take (Xp t ws).toNat
def Xi(t:Int)(ws:List Int):List Int:=(QJ t ws).mapIdx fun i b=>if i∈upL t ws then b+1 else b
theorem QQ(l m:List Int):(l++m).sum=l.sum+m.sum:=by
 induction l with
 |nil=>simp
 |cons a l ih=>simp only[List.cons_append,List.sum_cons,ih];omega
theorem Qx{l:List Int}(h:∀x∈l,0<=x):0<=l.sum:=by
 induction l with
 |nil=>simp
 |cons a l ih=>
  have h1:=h a (by simp);have h2:=ih (fun x hx=>h x (by simp[hx]));simp only[List.sum_cons];omega
theorem Zex{l:List Int}(h:∀x∈l,0<=x){x:Int}(hx:x∈l):x<=l.sum:=by
 induction l with
 |nil=>simp at hx
 |cons a l ih=>
  have h1:=h a (by simp);have h2:=Qx (fun x hx=>h x (List.mem_cons_of_mem a hx));simp only[List.sum_cons]
  rcases List.mem_cons.1 hx with e|hx
  ·omega
  ·have:=ih (fun x hx=>h x (by simp[hx])) hx;omega
theorem Zay(t S:Int)(ws:List Int):S*(ws.map fun w=>(t*w).fdiv S).sum+(ws.map fun w=>(t*w).fmod S).sum=t*ws.sum:=by
 induction ws with
 |nil=>simp
 |cons a l ih=>
  simp only[List.map_cons,List.sum_cons,Int.mul_add] at ih ⊢;have:=Int.mul_fdiv_add_fmod (t*a) S
  omega
theorem Zbe(t:Int)(ws:List Int):ws.sum*(QJ t ws).sum+(QO t ws).sum=t*ws.sum:=Zay t ws.sum ws
theorem Zaz(t:Int)(ws:List Int):(QO t ws).sum=ws.sum*Xp t ws:=by
 have h:=Zbe t ws;unfold Xp;rw[Int.mul_sub,Int.mul_comm ws.sum t];omega
theorem Yh(t:Int){ws:List Int}(hS:0<ws.sum):∀r∈QO t ws,0<=r/\r<ws.sum:=by
 intro r hr;obtain⟨w,_,rfl⟩:=List.mem_map.1 hr
 exact⟨Int.fmod_nonneg_of_pos _ hS,Int.fmod_lt_of_pos _ hS⟩
theorem YZ(t:Int){ws:List Int}(hS:0<ws.sum):0<=Xp t ws:=by
 have h1:=Zaz t ws;have h2:=Qx (fun r hr=>(Yh t hS r hr).1);rw[h1] at h2
 rcases Int.lt_or_le (Xp t ws) 0 with h|h
 ·have:=Int.mul_neg_of_pos_of_neg hS h;omega
 ·exact h
theorem Zb1{S:Int}{l:List Int}(h:∀r∈l,0<=r/\r<S):l.sum<=S*(l.countP (fun r=>decide (0<r)):Nat)/\(0<l.sum->l.sum<S*(l.countP (fun r=>decide (0<r)):Nat)):=by
 induction l with
 |nil=>simp
 |cons a l ih=>
  obtain⟨h1,h2⟩:=ih (fun r hr=>h r (by simp[hr]))
  obtain⟨h3,h4⟩:=h a (by simp)
  simp only[List.sum_cons,List.countP_cons]
  by_cases ha:0<a
  ·simp only[ha,decide_true,if_true,Int.natCast_add,Int.mul_add]
   constructor<;>omega
  ·have:a=0:=by omega
   subst this;simp only[Int.lt_irrefl,decide_false,Bool.false_eq_true,if_false,Nat.add_zero,Int.zero_add];exact⟨h1,h2⟩
theorem Yp(t:Int){ws:List Int}(hS:0<ws.sum):Xp t ws<=((QO t ws).countP (fun r=>decide (0<r)):Nat):=by
 have h1:=(Zb1 (Yh t hS)).1;rw[Zaz] at h1;exact Int.le_of_mul_le_mul_left h1 hS
theorem ZdJ(rs:List Int)(i k:Nat):(YY rs i k||YY rs k i)=true:=by
 unfold YY;simp only[Bool.or_eq_true,decide_eq_true_eq];omega
theorem ZdK(rs:List Int)(i j k:Nat)(h1:YY rs i j=true)(h2:YY rs j k=true):YY rs i k=true:=by
 unfold YY at*
 simp only[decide_eq_true_eq] at*
 omega
theorem Yw(rs:List Int):(Yo rs).Perm (List.range rs.length):=List.mergeSort_perm _ _
theorem ZaA(rs:List Int):(Yo rs).Nodup:=(Yw rs).nodup_iff.2 List.nodup_range
theorem ZcL(rs:List Int):(Yo rs).Pairwise (fun i k=>YY rs i k=true):=List.pairwise_mergeSort (ZdK rs) (ZdJ rs) _
theorem Zf4{rs:List Int}{i:Nat}:i∈Yo rs↔i<rs.length:=by rw[(Yw rs).mem_iff];exact List.mem_range
theorem JN(rs:List Int):(Yo rs).length=rs.length:=by rw[(Yw rs).length_eq,List.length_range]
theorem ZdL(rs:List Int)(p:Int->Bool):(List.range rs.length).countP (fun i=>p (rs.getD i 0))=rs.countP p:=by
 induction rs with
 |nil=>simp
 |cons a l ih=>
  rw[List.length_cons,List.range_succ_eq_map,List.countP_cons,List.countP_cons,List.countP_map];simp only[List.getD_cons_zero];rw[<-ih];rfl
theorem ZiS(t:Int){ws:List Int}(hS:0<ws.sum){i:Nat}(hi:i∈upL t ws):0<(QO t ws).getD i 0:=by
 have hm:=Yp t hS;have hb:=Yh t hS;unfold upL at hi;generalize QO t ws=rs at*;generalize Xp t ws=m at*
 rcases Int.lt_or_le 0 (rs.getD i 0) with h|h
 ·exact h
 exfalso
 obtain⟨k,hk,hki⟩:=List.getElem_of_mem hi
 have hkl:k<(Yo rs).length:=by rw[List.length_take] at hk;omega
 have hkm:k<m.toNat:=by rw[List.length_take] at hk;omega
 rw[List.getElem_take] at hki
 have hsplit:(Yo rs).countP (fun i=>decide (0<rs.getD i 0))<=k:=by
  rw[<-List.take_append_drop k (Yo rs),List.countP_append];have h1:((Yo rs).take k).countP (fun i=>decide (0<rs.getD i 0))<=k:=Nat.le_trans List.countP_le_length (by rw[List.length_take];omega)
  have h2:((Yo rs).drop k).countP (fun i=>decide (0<rs.getD i 0))=0:=by
   rw[List.countP_eq_zero];intro j hj;obtain⟨l,hl,hlj⟩:=List.getElem_of_mem hj
   rw[List.getElem_drop] at hlj;have hl':k+l<(Yo rs).length:=by rw[List.length_drop] at hl;omega
   have hle:rs.getD j 0<=rs.getD i 0:=by
    rcases Nat.eq_zero_or_pos l with e|e
    ·subst e;have e2:i=j:=hki.symm.trans hlj;rw[e2];exact Int.le_refl _
    ·have:=List.pairwise_iff_getElem.1 (ZcL rs) k (k+l) hkl hl' (by omega)
     rw[hki,hlj] at this;unfold YY at this;simp only[decide_eq_true_eq] at this;omega
   simp only[decide_eq_true_eq];omega
  omega
 rw[(Yw rs).countP_eq,ZdL rs (fun r=>decide (0<r))] at hsplit;omega
theorem ZeV(t:Int){ws:List Int}(hS:0<ws.sum):((upL t ws).length:Int)=Xp t ws:=by
 have h1:=Yp t hS;have h2:=YZ t hS;have h3:(QO t ws).countP (fun r=>decide (0<r))<=(QO t ws).length:=List.countP_le_length;unfold upL;rw[List.length_take,JN];omega
theorem JO(t:Int)(ws:List Int):(Xi t ws).length=ws.length:=by simp[Xi,QJ]
theorem ZcM(t:Int)(ws:List Int)(i:Nat)(hi:i<ws.length):(Xi t ws)[i]?=some (if i∈upL t ws then(t*ws[i]).fdiv ws.sum+1 else(t*ws[i]).fdiv ws.sum):=by
 simp[Xi,QJ,hi]
theorem Zbf(l:List Int)(P:Nat->Prop)[DecidablePred P]:(l.mapIdx fun i b=>if P i then b+1 else b).sum=l.sum+((List.range l.length).countP (fun i=>decide (P i)):Nat):=by
 induction l generalizing P with
 |nil=>simp
 |cons a l ih=>
  rw[List.mapIdx_cons,List.sum_cons,List.sum_cons,List.length_cons,List.range_succ_eq_map,List.countP_cons,List.countP_map];have:=ih (fun i=>P (i+1))
  rw[this];have e:((fun i=>decide (P i)) ∘ Nat.succ)=fun i=>decide (P (i+1)):=rfl
  rw[e]
  by_cases h0:P 0<;>simp[h0]<;>omega
theorem Zf5(t:Int){ws:List Int}(hS:0<ws.sum):(Xi t ws).sum=t:=by
 unfold Xi;rw[Zbf (QJ t ws) (fun i=>i∈upL t ws)]
 have h1:(List.range (QJ t ws).length).countP (fun i=>decide (i∈upL t ws))=(upL t ws).length:=by
  have hl:(QJ t ws).length=(QO t ws).length:=by simp[QJ,QO]
  rw[hl,<-(Yw (QO t ws)).countP_eq];have hn:=ZaA (QO t ws);unfold upL;generalize Yo (QO t ws)=o at*;generalize (Xp t ws).toNat=m at*;have hd:((o.take m)++(o.drop m)).Nodup:=by rw[List.take_append_drop];exact hn
  rw[List.nodup_append] at hd
  have e:o.countP (fun i=>decide (i∈o.take m))=(o.take m).countP (fun i=>decide (i∈o.take m))+(o.drop m).countP (fun i=>decide (i∈o.take m)):=by
   rw[<-List.countP_append,List.take_append_drop]
  rw[e,List.countP_eq_length.2 (fun a ha=>by simpa using ha),List.countP_eq_zero.2 (fun a ha=>by
   simp only[decide_eq_true_eq];intro hm;exact hd.2.2 a hm a ha rfl)]
  rfl
 rw[h1,ZeV t hS];unfold Xp;omega
end
section
def QM(ws:List (List UInt8)):Int:=(ws.map val).sum
theorem ZeW(ws:List (List UInt8))(x:List UInt8):QM (ws++[x])=QM ws+val x:=by
 unfold QM;rw[List.map_append,QQ];simp
theorem ZeX{ws:List (List UInt8)}{k:Nat}{x:List UInt8}(h:ws[k]?=some x):QM (ws.take (k+1))=QM (ws.take k)+val x:=by
 obtain⟨hk,rfl⟩:=List.getElem?_eq_some_iff.1 h
 rw[List.take_succ_eq_append_getElem hk,ZeW]
theorem ZcN{ws:List (List UInt8)}{L:Nat}(h:∀x∈ws,x.length<=L):(QM ws).natAbs<=ws.length*10^L:=by
 unfold QM
 induction ws with
 |nil=>simp
 |cons a l ih=>
  have h1:=ih (fun x hx=>h x (by simp[hx]));have h2:=Qu (h a (by simp));simp only[List.map_cons,List.sum_cons,List.length_cons,Nat.succ_mul];omega
theorem VX{ws:List (List UInt8)}{L:Nat}(h:∀x∈ws,x.length<=L)(hn:ws.length<=9999):(Qa (QM ws)).length<=L+5:=by
 refine Qf (L:=L+4) ?_;have h1:=ZcN h;have h2:ws.length*10^L<10^4*10^L:=Nat.mul_lt_mul_of_pos_right (by omega) (Nat.pow_pos (by omega));rw[Nat.pow_add,Nat.mul_comm (10^L)];omega
theorem Zbg{ws:List (List UInt8)}{L:Nat}(h:∀x∈ws,x.length<=L)(hn:ws.length<=9999)(k:Nat):(Qa (QM (ws.take k))).length<=L+5:=
 VX (fun x hx=>h x (List.mem_of_mem_take hx)) (by rw[List.length_take];omega)
end
section
structure Mp where
 cause:List UInt8
 day:Int
 inst:List UInt8
 other:List UInt8
 ratio:Fr
 share:Fr
 price:Fr
 keep:Bool
deriving DecidableEq
structure Mp.Ok (m:Mp):Prop where
 cause:Qp m.cause=true
 inst:Qp m.inst=true
 other:Qp m.other=true
 day:Jq m.day=true
 ratio:m.ratio.ok
 share:m.share.ok
 price:m.price.ok
 r0:0<m.ratio.rat
 s0:0<=m.share.rat
 s1:m.share.rat<=1
 p0:0<=m.price.rat
 keep:m.keep=true->m.other≠m.inst
 all:m.keep=false->m.share.rat=1
def Zaa(t:Int)(ws:List Int):List Int:=if ws.sum=0 then ws.map (fun _=>0) else Xi t ws
theorem JP(t:Int)(ws:List Int):(Zaa t ws).length=ws.length:=by
 unfold Zaa
 split
 ·simp
 ·exact JO t ws
theorem ZaB{t w S:Int}(hS:0<S)(hw:0<=w)(ht:t<=S):(t*w).fdiv S<=w/\(0<(t*w).fmod S->(t*w).fdiv S+1<=w):=by
 have h1:=Int.mul_fdiv_add_fmod (t*w) S;have h2:=Int.fmod_nonneg_of_pos (t*w) hS;have h3:t*w<=S*w:=Int.mul_le_mul_of_nonneg_right ht hw;generalize (t*w).fdiv S=d at*;generalize (t*w).fmod S=r at*
 constructor
 ·have:S*d<=S*w:=by omega
  exact Int.le_of_mul_le_mul_left this hS
 ·intro hr;have:S*d<S*w:=by omega
  have:=Int.lt_of_mul_lt_mul_left this (Int.le_of_lt hS)
  omega
theorem ZcO{t:Int}{ws:List Int}(ht:0<=t)(hw:∀w∈ws,0<=w)(hS:0<ws.sum){i:Nat}{x w:Int}(hi:(Xi t ws)[i]?=some x)(hwi:ws[i]?=some w):
 0<=x/\(t<=ws.sum->x<=w):=by
 obtain⟨hlt,e⟩:=List.getElem?_eq_some_iff.1 hwi
 have hw0:0<=w:=hw w (List.mem_of_getElem? hwi);rw[ZcM t ws i hlt,e] at hi;have h0:0<=(t*w).fdiv ws.sum:=Int.fdiv_nonneg (Int.mul_nonneg ht hw0) (Int.le_of_lt hS);injection hi with hi
 by_cases hu:i∈upL t ws
 ·rw[if_pos hu] at hi;refine⟨by omega,fun hts=> ?_⟩;have hr:=ZiS t hS hu
  have hr2:(QO t ws).getD i 0=(t*w).fmod ws.sum:=by
   unfold QO;rw[List.getD_eq_getElem?_getD,List.getElem?_map,hwi];rfl
  rw[hr2] at hr;have:=(ZaB hS hw0 hts).2 hr
  omega
 ·rw[if_neg hu] at hi;exact⟨by omega,fun hts=>by have:=(ZaB hS hw0 hts).1;omega⟩
theorem Zb2{l:List Int}(h:∀x∈l,0<=x)(hs:l.sum=0):∀x∈l,x=0:=by
 intro x hx;have h1:=h x hx;have h2:=Zex h hx;omega
theorem ZcP{t:Int}{ws:List Int}(ht:0<=t)(hw:∀w∈ws,0<=w){i:Nat}{x w:Int}(hi:(Zaa t ws)[i]?=some x)(hwi:ws[i]?=some w):
 0<=x/\(t<=ws.sum->x<=w):=by
 unfold Zaa at hi
 split at hi
 ·rename_i h0
  rw[List.getElem?_map,hwi] at hi;have hi:(0:Int)=x:=Option.some.inj hi;have:=hw w (List.mem_of_getElem? hwi)
  exact⟨by omega,fun _=>by omega⟩
 ·rename_i h0
  have hs:=Qx hw;exact ZcO ht hw (by omega) hi hwi
theorem VY{t:Int}{ws:List Int}(hw:∀w∈ws,0<=w)(h:0<ws.sum\/t=0):(Zaa t ws).sum=t:=by
 unfold Zaa
 split
 ·rename_i h0
  rcases h with h|h
  ·omega
  ·subst h;generalize ws=l
   induction l with
   |nil=>rfl
   |cons a l ih=>simpa using ih
 ·rename_i h0
  have hs:=Qx hw;exact Zf5 t (by omega)
theorem ZcQ{t:Int}{ws:List Int}(ht:0<=t)(hw:∀w∈ws,0<=w):∀x∈Zaa t ws,0<=x:=by
 intro x hx;obtain⟨i,hi⟩:=List.getElem?_of_mem hx
 have hlt:=(List.getElem?_eq_some_iff.1 hi).1;rw[JP] at hlt;exact(ZcP ht hw hi (List.getElem?_eq_getElem hlt)).1
def ZhM(t p a:Int):Int:=rnd (Rat.divInt (t*p) a)
structure Plan where
 exact:Rat
 parts:Int
 part:Rat
 moved:Int
 taken:Int
 cash:Int
 n:List Int
 m:List Int
 f:List Int
 p:List Int
def QS(old:List Lot)(m:Mp):Plan:=
 let qs:=old.map fun x=>val x.q
 let cs:=old.map fun x=>val x.c
 let ex:Rat:=((qs.sum:Int):Rat)*m.ratio.rat
 let moved:=rnd (m.share.rat*((cs.sum:Int):Rat))
 let part:=ex-((Yu ex:Int):Rat)
 let taken:=if part=0 then 0 else if Yu ex=0 then moved else ZhM moved (YD ex) ex.num
 let cash:=rnd (part*m.price.rat)
 {exact:=ex,parts:=Yu ex,part:=part,moved:=moved,taken:=taken,cash:=cash,n:=Zaa (Yu ex) qs,m:=Zaa moved cs,f:=Zaa taken (Zaa moved cs),p:=Zaa cash qs}
theorem VJ(q:Rat):q=Rat.divInt q.num q.den:=(Rat.num_divInt_den q).symm
theorem ZhN(q:Rat):q-((Yu q:Int):Rat)=Rat.divInt (YD q) q.den:=by
 have hd:(q.den:Int)≠0:=by have:=q.den_nz;omega
 have h:=Zb0 q;rw[Int.mul_comm] at h;have e:((Yu q:Int):Rat)=Rat.divInt (Yu q) 1:=(YE (Yu q)).symm;rw[e]
 conv=>lhs;lhs;rw[VJ q]
 rw[Rat.divInt_sub_divInt _ _ hd (by omega)]
 congr 1
 ·omega
 ·omega
theorem VK{q:Rat}(h:0<=q):0<=Yu q:=Int.fdiv_nonneg (Rat.num_nonneg.2 h) (by omega)
theorem ZcR(q:Rat):0<=q-((Yu q:Int):Rat):=by
 rw[ZhN,<-Rat.num_nonneg,Rat.num_divInt];obtain⟨h1,h2⟩:=Xs q
 have hd:(0:Int)<q.den:=by omega
 rw[Int.sign_eq_one_of_pos hd,Int.one_mul];exact Int.ediv_nonneg h1 (by omega)
theorem VL(q:Rat):Yu q<=rnd q/\(rnd q=Yu q\/(rnd q=Yu q+1/\YD q≠0)):=by
 unfold rnd
 split
 ·rename_i h
  have:=Xs q
  exact⟨by omega,.inr ⟨rfl,by omega⟩⟩
 ·exact⟨by omega,.inl rfl⟩
theorem YF{q:Rat}(h:0<=q):0<=rnd q:=by
 have:=VK h
 have:=(VL q).1
 omega
theorem Zf6{n d k:Int}(hd:0<d)(h:n<=k*d):rnd (Rat.divInt n d)<=k:=by
 have hf:=Zf2 n d (by omega);have h1:=Int.mul_fdiv_add_fmod n d;have h2:=Int.fmod_nonneg_of_pos n hd;obtain⟨h3,h4⟩:=VL (Rat.divInt n d)
 have hle:n.fdiv d<=k:=by
  have:d*n.fdiv d<=d*k:=by rw[Int.mul_comm d k];omega
  exact Int.le_of_mul_le_mul_left this hd
 rcases h4 with h4|⟨h4,h5⟩
 ·omega
 ·rcases Int.lt_or_eq_of_le hle with h6|h6
  ·omega
  ·-- then n is k*d,and nothing remains
   exfalso
   have hn:n=k*d:=by
    rw[h6,Int.mul_comm d k] at h1;omega
   apply h5
   subst hn
   have e:Rat.divInt (k*d) d=((k:Int):Rat):=by
    rw[<-YE k,Rat.divInt_eq_divInt_iff (by omega) (by omega)];omega
   rw[e];unfold YD;simp
theorem Zad(k:Int):rnd ((k:Int):Rat)=k:=by
 have h:YD ((k:Int):Rat)=0:=by unfold YD;simp
 have h2:Yu ((k:Int):Rat)=k:=by unfold Yu;simp
 unfold rnd;rw[h,h2,if_neg];simp
structure PlanOk (old:List Lot) (m:Mp) (x:Plan):Prop where
 ex:x.exact=((((old.map fun y=>val y.q).sum:Int)):Rat)*m.ratio.rat
 exact0:0<=x.exact
 parts0:0<=x.parts
 part0:0<=x.part
 moved0:0<=x.moved
 moved1:x.moved<=(old.map fun y=>val y.c).sum
 all:m.keep=false->x.moved=(old.map fun y=>val y.c).sum
 taken0:0<=x.taken
 taken1:x.taken<=x.moved
 whole:x.part=0->x.taken=0
 none:x.part≠0->x.parts=0->x.taken=x.moved
 cash0:0<=x.cash
 cash1:x.part=0->x.cash=0
theorem ZaC{old:List Lot}(h:∀y∈old,y.Ok):(∀z∈old.map (fun y=>val y.q),0<=z)/\∀z∈old.map (fun y=>val y.c),0<=z:=by
 constructor
 ·intro z hz;obtain⟨y,hy,rfl⟩:=List.mem_map.1 hz
  have:=(h y hy).q0
  omega
 ·intro z hz;obtain⟨y,hy,rfl⟩:=List.mem_map.1 hz
  exact(h y hy).c0
theorem Va{k:Int}(h:0<=k):(0:Rat)<=(k:Rat):=by exact_mod_cast h
theorem ZdM{s:Rat}{k:Int}(hs:s<=1)(hk:0<=k):rnd (s*(k:Rat))<=k:=by
 have hd:(0:Int)<s.den:=by have:=s.den_pos;omega
 have e:s*(k:Rat)=Rat.divInt (s.num*k) s.den:=by
  conv=>lhs;rw[VJ s,<-YE k]
  rw[Rat.divInt_mul_divInt,Int.mul_one]
 rw[e];refine Zf6 hd ?_
 have hn:s.num<=s.den:=by
  have h1:s=Rat.divInt s.num s.den:=VJ s;have h2:¬(1:Rat)<s:=Rat.not_lt.2 hs;have h3:(1:Rat)=Rat.divInt 1 1:=rfl;rw[h1,h3,ZeT _ _ (by omega) hd] at h2;omega
 rw[Int.mul_comm k];exact Int.mul_le_mul_of_nonneg_right hn hk
theorem ZcS{old:List Lot}{m:Mp}(h:∀y∈old,y.Ok)(hm:m.Ok):PlanOk old m (QS old m):=by
 obtain⟨hq,hc⟩:=ZaC h
 have hqs:=Qx hq;have hcs:=Qx hc;have hex:(0:Rat)<=((((old.map fun y=>val y.q).sum:Int)):Rat)*m.ratio.rat:=Rat.mul_nonneg (Va hqs) (Rat.le_of_lt hm.r0);have hmv:(0:Rat)<=m.share.rat*((((old.map fun y=>val y.c).sum:Int)):Rat):=Rat.mul_nonneg hm.s0 (Va hcs);have hm0:=YF hmv;have hpt:=ZcR (((((old.map fun y=>val y.q).sum:Int)):Rat)*m.ratio.rat)
 have hshr:∀mv:Int,0<=mv->∀ex:Rat,0<=ex->Yu ex≠0->0<=ZhM mv (YD ex) ex.num/\ZhM mv (YD ex) ex.num<=mv:=by
  intro mv hmv ex hex hne;have h1:=Zb0 ex;obtain⟨h2,h3⟩:=Xs ex
  have h4:=VK hex;have h5:(0:Int)<=ex.den*Yu ex:=Int.mul_nonneg (by omega) h4;have h6:(0:Int)<ex.den*Yu ex:=Int.mul_pos (by omega) (by omega);have hn:0<ex.num:=by omega
  have hle:YD ex<=ex.num:=by omega
  unfold ZhM
  constructor
  ·refine YF ?_;rw[<-Rat.num_nonneg,Rat.num_divInt,Int.sign_eq_one_of_pos hn,Int.one_mul];exact Int.ediv_nonneg (Int.mul_nonneg hmv h2) (by omega)
  ·exact Zf6 hn (Int.mul_le_mul_of_nonneg_left hle hmv)
 refine⟨rfl,hex,VK hex,hpt,hm0,ZdM hm.s1 hcs,?_,?_,?_,?_,?_,YF (Rat.mul_nonneg hpt hm.p0),?_⟩
 ·intro hk
  show rnd (m.share.rat*_)=_
  rw[hm.all hk,Rat.one_mul,Zad]
 ·show 0<=ite _ _ _
  split
  ·omega
  ·split
   ·exact hm0
   ·rename_i h1 h2
    exact(hshr _ hm0 _ hex h2).1
 ·show ite _ _ _<=_
  split
  ·exact hm0
  ·split
   ·exact Int.le_refl _
   ·rename_i h1 h2
    exact(hshr _ hm0 _ hex h2).2
 ·intro hp;exact if_pos hp
 ·intro hp h0;exact(if_neg hp).trans (if_pos h0)
 ·intro hp
  show rnd (_*_)=0
  have hp':(QS old m).part=0:=hp;rw[show((((old.map fun y=>val y.q).sum:Int)):Rat)*m.ratio.rat-((Yu (((((old.map fun y=>val y.q).sum:Int)):Rat)*m.ratio.rat):Int):Rat)=0 from hp',Rat.zero_mul];exact Zad 0
end
end Go.Proofs.YtlhmkgmojgnaaaaGreatDoor
