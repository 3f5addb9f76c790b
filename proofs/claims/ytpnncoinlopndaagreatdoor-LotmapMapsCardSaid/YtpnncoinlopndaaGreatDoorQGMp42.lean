/- Lp3, Lp4, Lz, Lt0, Lt1, Lp5, Lp6, Lp7, Lp8, Lp9, Lc, Qp, AwP. -/
import Derived.Test.YtpnncoinlopndaaGreatDoorQGMp40
import Derived.Lib.AtoiAllCases
import Derived.Lib.IndexLaws
import Derived.OwnWalk
set_option maxRecDepth 20000
set_option maxHeartbeats 1000000
namespace Go.Proofs.YtpnncoinlopndaaGreatDoor
open Go.Lib renaming hid→jq
open Go.RowKit Go.Shelf
section
theorem YB{l:List Int}{i:Nat}{a:Int}(h:l[i]?=some a):l.getD i 0=a:=by rw[List.getD_eq_getElem?_getD,h];rfl
theorem Jw(n:List Int)(i:Nat)(hi:i<n.length):QD n (i+1)=QD n i+if n.getD i 0=0 then 0 else 1:=by
 unfold QD;rw[List.take_succ_eq_append_getElem hi,List.countP_append,YB (List.getElem?_eq_getElem hi)]
 by_cases h:n[i]=0<;>simp[h]
theorem JM(n:List Int)(i:Nat):QD n i<=i:=by
 unfold QD;exact Nat.le_trans List.countP_le_length (by rw[List.length_take];omega)
theorem Zki(n:List Int):QD n n.length=n.countP (fun a=>decide (a≠0)):=by unfold QD;rw[List.take_length]
theorem ZiY{c:List UInt8}{j k:Nat}(h:QO c j=QO c k):j=k:=by
 unfold QO at h;have h1:=List.append_cancel_left h;injection h1 with _ h2;have:=congrArg Qk h2
 rwa [Vq,Vq] at this
theorem Zf9(m:Mp)(x:Plan)(old:List Lot)(hn:x.n.length=old.length)(i:Nat)(hi:i<=old.length):
 (QY m x old i).map (fun z=>z.2.id)=(List.range (QD x.n i)).map (fun k=>QO m.cause (k+1)):=by
 induction i with
 |zero=>simp[QY,QD]
 |succ i ih=>
  have hlt:i<old.length:=by omega
  rw[Yy,List.map_append,ih (by omega),Jw _ _ (by omega),List.getElem?_eq_getElem hlt]
  by_cases h:x.n.getD i 0=0
  ·simp only[if_pos h];simp
  ·simp only[if_neg h];rw[List.range_succ,List.map_append];rfl
theorem Zeu(m:Mp)(x:Plan)(old:List Lot)(hn:x.n.length=old.length):(QZ m x old).map (·.id)=(List.range (QD x.n old.length)).map (fun k=>QO m.cause (k+1)):=by
 unfold QZ QR;rw[List.map_map];exact Zf9 m x old hn _ (Nat.le_refl _)
theorem Zcx(m:Mp)(x:Plan)(old:List Lot)(hn:x.n.length=old.length):((QZ m x old).map (·.id)).Nodup:=by
 rw[Zeu m x old hn];unfold List.Nodup;rw[List.pairwise_map];exact List.Pairwise.imp (fun h e=>h (by have:=ZiY e;omega)) List.nodup_range
theorem ZaK{m:Mp}{x:Plan}{old:List Lot}{z:Lot}(h:z∈QZ m x old):∃i y,old[i]?=some y/\x.n.getD i 0≠0/\z=ZcN m x old.length i y:=by
 unfold QZ QR QY at h;obtain⟨p,hp,rfl⟩:=List.mem_map.1 h
 obtain⟨i,_,hi⟩:=List.mem_filterMap.1 hp
 cases ho:old[i]? with
 |none=>rw[ho] at hi;cases hi
 |some y=>
  rw[ho] at hi
  by_cases h0:x.n.getD i 0=0
  ·simp only[if_pos h0] at hi;cases hi
  ·simp only[if_neg h0,Option.some.injEq] at hi;subst hi;exact⟨i,y,ho,h0,rfl⟩
theorem Zdk{c:List UInt8}(h:QG c=true)(l:List UInt8):(c++47::l).takeWhile (·!=47)=c/\((c++47::l).dropWhile (·!=47)).drop 1=l:=by
 have hc:∀b∈c,(b !=47)=true:=by
  unfold QG at h;simp only[Bool.and_eq_true] at h;intro b hb;have:=List.all_eq_true.1 h.2 b hb
  cases e:b==47 with
  |false=>simp only[bne,e];rfl
  |true=>
   have:=eq_of_beq e
   subst this;exact absurd this (by decide)
 rw[List.takeWhile_append_of_pos hc,List.dropWhile_append_of_pos hc];simp
theorem ZiZ{c:List UInt8}(h:QG c=true){k:Nat}(h1:1<=k)(h2:k<=9999):idB (QO c k)=true:=by
 obtain⟨e1,e2⟩:=Zdk h (QN k)
 unfold idB QO;rw[e1,e2,h]
 have hn:Zaf (QN k)=true:=by
  unfold Zaf;obtain⟨b,l,e,hb,_⟩:=Jl k (by omega)
  have h3:=YY (m:=k) (L:=4) (by omega);have h4:=ZcZ k (by omega);rw[Jk,decide_eq_true h3,decide_eq_true h4,e]
  have h5:(some b:Option UInt8)≠some 48:=fun e2=>by
   injection e2 with e2;subst e2;exact absurd hb (by decide)
  rw[List.head?_cons,decide_eq_true h5];rfl
 rw[hn];simp
theorem Zdl{α:Type}{l:List α}{g:α->Int}(h:∀a∈l,0<=g a):0<=(l.map g).sum:=by
 refine QP fun z hz=> ?_
 obtain⟨a,ha,rfl⟩:=List.mem_map.1 hz
 exact h a ha
structure PlanAt (x:Plan) (i:Nat) (y:Lot):Prop where
 n:0<=x.n.getD i 0
 m0:0<=x.m.getD i 0
 m1:x.m.getD i 0<=val y.c
 f0:0<=x.f.getD i 0
 f1:x.f.getD i 0<=x.m.getD i 0
 p:0<=x.p.getD i 0
theorem Xn(old:List Lot)(m:Mp):(Qe old m).n.length=old.length/\(Qe old m).m.length=old.length/\(Qe old m).f.length=old.length/\(Qe old m).p.length=old.length:=by
 unfold Qe;simp[Zcv]
theorem VE{old:List Lot}{m:Mp}(h:∀y∈old,y.Ok)(hm:m.Ok)(ho:old≠[]):
 (Qe old m).n.sum=(Qe old m).parts/\(Qe old m).m.sum=(Qe old m).moved/\(Qe old m).f.sum=(Qe old m).taken/\(Qe old m).p.sum=(Qe old m).cash/\0<(old.map fun y=>val y.q).sum:=by
 obtain⟨hq,hc⟩:=YJ h
 have hok:=Jt h hm
 have hqs:0<(old.map fun y=>val y.q).sum:=by
  cases old with
  |nil=>exact absurd rfl ho
  |cons a l=>
   have h1:=(h a (by simp)).q0;have h2:=ZaF hq (x:=val a.q) (by simp);omega
 have hm1:=hok.moved1;have hm0:=hok.moved0;have hms:(Qe old m).m.sum=(Qe old m).moved:=Zbx hc (by show 0<_\/(Qe old m).moved=0;omega);refine⟨Zbx hq (.inl hqs),hms,?_,Zbx hq (.inl hqs),hqs⟩;have hmn:∀z∈(Qe old m).m,0<=z:=XH hok.moved0 hc;have ht0:=hok.taken0;have ht1:=hok.taken1;exact Zbx hmn (by show 0<(Qe old m).m.sum\/(Qe old m).taken=0;rw[hms];omega)
theorem ZbB{old:List Lot}{m:Mp}(h:∀y∈old,y.Ok)(hm:m.Ok)(ho:old≠[]){i:Nat}{y:Lot}(hi:old[i]?=some y):PlanAt (Qe old m) i y:=by
 obtain⟨hq,hc⟩:=YJ h
 have hok:=Jt h hm;obtain⟨l1,l2,l3,l4⟩:=Xn old m
 obtain⟨s1,s2,s3,s4,_⟩:=VE h hm ho
 have hlt:=(List.getElem?_eq_some_iff.1 hi).1;have hn:(Qe old m).n[i]?=some ((Qe old m).n[i]'(by omega)):=List.getElem?_eq_getElem _;have hmm:(Qe old m).m[i]?=some ((Qe old m).m[i]'(by omega)):=List.getElem?_eq_getElem _;have hf:(Qe old m).f[i]?=some ((Qe old m).f[i]'(by omega)):=List.getElem?_eq_getElem _;have hp:(Qe old m).p[i]?=some ((Qe old m).p[i]'(by omega)):=List.getElem?_eq_getElem _;have hqi:(old.map fun y=>val y.q)[i]?=some (val y.q):=by rw[List.getElem?_map,hi];rfl
 have hci:(old.map fun y=>val y.c)[i]?=some (val y.c):=by rw[List.getElem?_map,hi];rfl
 have hmn:∀z∈(Qe old m).m,0<=z:=XH hok.moved0 hc;have a1:=Vb hok.parts0 hq hn hqi;have a2:=Vb hok.moved0 hc hmm hci;have a3:=Vb hok.taken0 hmn hf hmm;have a4:=Vb hok.cash0 hq hp hqi;refine⟨?_,?_,?_,?_,?_,?_⟩
 ·rw[YB hn];exact a1.1
 ·rw[YB hmm];exact a2.1
 ·rw[YB hmm];exact a2.2 hok.moved1
 ·rw[YB hf];exact a3.1
 ·rw[YB hf,YB hmm];exact a3.2 (by rw[s2];exact hok.taken1)
 ·rw[YB hp];exact a4.1
theorem Zga{old:List Lot}{m:Mp}(h:∀y∈old,y.Ok)(hm:m.Ok)(ho:old≠[]){k:Nat}(hk:k<=old.length):0<=(Qe old m).rest k:=by
 unfold Plan.rest;refine Zdl fun j hj=> ?_
 have hj:=List.mem_range.1 (List.mem_filter.1 hj).1;have hy:old[j]?=some (old[j]'(by omega)):=List.getElem?_eq_getElem _;have:=(ZbB h hm ho hy)
 unfold Plan.mv;have:=this.f1
 omega
theorem Zig{old:List Lot}{m:Mp}(h:∀y∈old,y.Ok)(hm:m.Ok)(ho:old≠[])(hl:old.length<=1000){i:Nat}{y:Lot}(hi:old[i]?=some y)(hn:(Qe old m).n.getD i 0≠0):(ZcN m (Qe old m) old.length i y).Ok:=by
 have hy:=h y (List.mem_of_getElem? hi);have ha:=ZbB h hm ho hi;have hr:=Zga h hm ho (Nat.le_refl old.length);have hlt:=(List.getElem?_eq_some_iff.1 hi).1;have hc:=JM (Qe old m).n i;have h1:=ha.n;have h2:=ha.f1;refine⟨ZiZ hm.cause (by omega) (by omega),hm.other,hy.acq,hy.opn,hy.ord,Ys _,Ys _,?_,?_,.inr rfl⟩
 ·show 0<val (Qa _)
  rw[Qc];omega
 ·show 0<=val (Qa _)
  rw[Qc];unfold Plan.mv
  split<;>omega
theorem ZaL(m:Mp)(ms:List Int)(k:Nat)(l:List Lot):((Qn m ms k l).map (·.id)).Sublist (l.map (·.id)):=by
 induction l generalizing k with
 |nil=>simp[Qn]
 |cons a l ih=>
  unfold Qn
  split
  ·split
   ·simp only[List.map_cons];exact(ih (k+1)).cons_cons _
   ·exact(ih (k+1)).cons _
  ·exact(ih k).cons_cons _
theorem Zkj(m:Mp)(ms:List Int)(k:Nat)(l:List Lot)(h:∀y∈l,y.Ok)(hm:∀j y,(Qb l m.inst)[j]?=some y->ms.getD (k+j) 0<=val y.c):∀z∈Qn m ms k l,z.Ok:=by
 induction l generalizing k with
 |nil=>intro z hz;simp[Qn] at hz
 |cons a l ih=>
  have hl:∀y∈l,y.Ok:=fun y hy=>h y (by simp[hy])
  unfold Qn
  by_cases ha:a.inst=m.inst
  ·have e:Qb (a::l) m.inst=a::Qb l m.inst:=by unfold Qb;rw[List.filter_cons,ha];simp
   have hm':∀j y,(Qb l m.inst)[j]?=some y->ms.getD (k+1+j) 0<=val y.c:=by
    intro j y hj;have:=hm (j+1) y (by rw[e];simpa using hj)
    rwa [show k+(j+1)=k+1+j by omega] at this
   rw[if_pos ha]
   split
   ·intro z hz
    rcases List.mem_cons.1 hz with rfl|hz
    ·have hok:=h a (by simp);have h0:=hm 0 a (by rw[e];rfl);refine⟨hok.id,hok.inst,hok.acq,hok.opn,hok.ord,hok.q,Ys _,hok.q0,?_,hok.u⟩
     show 0<=val (Qa _)
     rw[Qc];simp only[Nat.add_zero] at h0;omega
    ·exact ih (k+1) hl hm' z hz
   ·exact ih (k+1) hl hm'
  ·have e:Qb (a::l) m.inst=Qb l m.inst:=by unfold Qb;rw[List.filter_cons];simp[ha]
   rw[if_neg ha];rw[e] at hm;intro z hz
   rcases List.mem_cons.1 hz with rfl|hz
   ·exact h _ (by simp)
   ·exact ih k hl hm z hz
theorem Xr{ls:List Lot}(h:LotsOk ls)(i:List UInt8):∀y∈Qb ls i,y.Ok:=fun y hy=>h.ok y (List.mem_filter.1 hy).1
theorem Yp(ls:List Lot)(i:List UInt8):(Qb ls i).length<=ls.length:=List.length_filter_le _ _
theorem Zcy{ls:List Lot}{m:Mp}(h:LotsOk ls)(hm:m.Ok)(ho:Qb ls m.inst≠[]):LotsOk (Qn m (Qe (Qb ls m.inst) m).m 0 ls):=by
 have hs:=ZaL m (Qe (Qb ls m.inst) m).m 0 ls;refine⟨?_,?_,hs.nodup h.ids⟩
 ·have:=hs.length_le
  simp only[List.length_map] at this;have:=h.len
  omega
 ·refine Zkj m _ 0 ls h.ok fun j y hj=> ?_
  have:=(ZbB (Xr h _) hm ho hj).m1
  simpa using this
structure MapOk (ls:List Lot) (m:Mp) (A B:List Lot):Prop where
 ok:LotsOk ls
 mp:m.Ok
 old:Qb ls m.inst≠[]
 free:∀z∈QZ m (Qe (Qb ls m.inst) m) (Qb ls m.inst),z.id ∉ ls.map (·.id)
 cut:Qn m (Qe (Qb ls m.inst) m).m 0 ls=A++B
 at_:CutAt m.other A B
 len:(A++QZ m (Qe (Qb ls m.inst) m) (Qb ls m.inst)++B).length<=1000
theorem Zi0(ls:List Lot)(m:Mp):
 (∃e,e≠0/\Yz ls m=(Res.none,e))\/
 (LotsOk ls/\m.Ok/\Qb ls m.inst=[]/\Yz ls m=(⟨ls,[],[]⟩,0))\/
 (∃A B,MapOk ls m A B/\Yz ls m=(⟨A++QZ m (Qe (Qb ls m.inst) m) (Qb ls m.inst)++B,Xq m (Qe (Qb ls m.inst) m) (Qb ls m.inst),Yh m (Qe (Qb ls m.inst) m) (Qb ls m.inst)⟩,0)):=by
 unfold Yz
 by_cases h1:Xl ls≠0\/JE m≠0
 ·rw[if_pos h1];exact .inl ⟨1,by omega,rfl⟩
 ·rw[if_neg h1];have hl:LotsOk ls:=(VQ ls).1 (Classical.not_not.1 (fun h=>h1 (.inl h)));have hm:m.Ok:=(Za1 m).1 (Classical.not_not.1 (fun h=>h1 (.inr h)));simp only
  by_cases h2:Qb ls m.inst=[]
  ·rw[if_pos h2];exact .inr (.inl ⟨hl,hm,h2,rfl⟩)
  ·rw[if_neg h2]
   by_cases h3:((QZ m (Qe (Qb ls m.inst) m) (Qb ls m.inst)).any fun z=>decide (z.id∈ls.map (·.id)))=true
   ·rw[if_pos h3];exact .inl ⟨5,by omega,rfl⟩
   ·rw[if_neg h3]
    have hfree:∀z∈QZ m (Qe (Qb ls m.inst) m) (Qb ls m.inst),z.id ∉ ls.map (·.id):=by
     intro z hz hin
     apply h3
     rw[List.any_eq_true];exact⟨z,hz,by simpa using hin⟩
    obtain⟨A,B,e,hc⟩:=Zf6 (Qn m (Qe (Qb ls m.inst) m).m 0 ls) m.other
    have hk:=Zcy hl hm h2;have hsub:=ZaL m (Qe (Qb ls m.inst) m).m 0 ls;rw[e] at hk hsub
    have heq:=Za3 m.other (QZ m (Qe (Qb ls m.inst) m) (Qb ls m.inst)) A B hc hk (by
     intro z hz;obtain⟨i,y,hy,hn,rfl⟩:=ZaK hz
     refine⟨Zig (Xr hl _) hm h2 (Nat.le_trans (Yp _ _) hl.len) hy hn,rfl,fun hin=>hfree _ hz (hsub.subset hin)⟩)
     (Zcx m _ _ (Xn _ m).1)
    rw[e,heq]
    by_cases h4:QZ m (Qe (Qb ls m.inst) m) (Qb ls m.inst)=[]\/(A++B).length+(QZ m (Qe (Qb ls m.inst) m) (Qb ls m.inst)).length<=1000
    ·rw[if_pos h4];refine .inr (.inr ⟨A,B,⟨hl,hm,h2,hfree,e,hc,?_⟩,rfl⟩);have hAB:(A++B).length<=1000:=hk.len;simp only[List.length_append] at h4 hAB ⊢
     rcases h4 with h4|h4
     ·rw[h4];simp;omega
     ·omega
    ·rw[if_neg h4];exact .inl ⟨4,by omega,rfl⟩
end
section
theorem Zev(l:List Int):((List.range l.length).map (fun i=>l.getD i 0)).sum=l.sum:=by
 induction l with
 |nil=>rfl
 |cons a l ih=>
  rw[List.length_cons,List.range_succ_eq_map,List.map_cons,List.sum_cons,List.map_map,List.sum_cons,<-ih];rfl
theorem Zam(f:Nat->Int)(i:Nat):((List.range (i+1)).map f).sum=((List.range i).map f).sum+f i:=by
 rw[List.range_succ,List.map_append,XW];simp
theorem Zb9(x:Plan)(i:Nat):x.rest (i+1)=x.rest i+if x.n.getD i 0=0 then x.mv i else 0:=by
 unfold Plan.rest;rw[List.range_succ,List.filter_append,List.map_append,XW]
 by_cases h:x.n.getD i 0=0
 ·rw[if_pos h,List.filter_cons,if_pos (by simp only[h];rfl)];simp
 ·rw[if_neg h,List.filter_cons,if_neg (by simp only[decide_eq_true_eq];exact h)];simp
theorem Zho{n:List Int}(h:n.countP (fun a=>decide (a≠0))=0):n.sum=0:=by
 rw[List.countP_eq_zero] at h;have h2:∀a∈n,a=0:=fun a ha=>by have:=h a ha;simpa using this
 clear h
 induction n with
 |nil=>rfl
 |cons a l ih=>
  rw[List.sum_cons,h2 a (by simp),ih (fun b hb=>h2 b (by simp[hb]))];rfl
section
variable {ls:List Lot} {m:Mp}
end
end
section
structure PlK (K:Nat) (x:Plan):Prop where
 ex:RB K x.exact
 parts:x.parts.natAbs<10^K
 part:RB K x.part
 moved:x.moved.natAbs<10^K
 taken:x.taken.natAbs<10^K
 cash:x.cash.natAbs<10^K
 n:∀i,(x.n.getD i 0).natAbs<10^K
 m:∀i,(x.m.getD i 0).natAbs<10^K
 f:∀i,(x.f.getD i 0).natAbs<10^K
 p:∀i,(x.p.getD i 0).natAbs<10^K
 mv:∀i,(x.mv i).natAbs<10^K
 rest:∀i,(x.rest i).natAbs<10^K
theorem Jd{a K L:Nat}(h:a<10^K)(hKL:K<=L):a<10^L:=Nat.lt_of_lt_of_le h (Nat.pow_le_pow_right (by omega) hKL)
theorem ZcV{l:List Int}{K:Nat}(h0:∀x∈l,0<=x)(hs:l.sum.natAbs<10^K)(i:Nat):(l.getD i 0).natAbs<10^K:=by
 rw[List.getD_eq_getElem?_getD]
 cases h:l[i]? with
 |none=>exact Nat.pow_pos (by omega)
 |some x=>
  have hx:=List.mem_of_getElem? h;have h1:=h0 x hx;have h2:=ZaF h0 hx
  show x.natAbs<_
  omega
theorem Za4{α:Type}{l:List α}{g:α->Int}{L:Nat}(h:∀a∈l,(g a).natAbs<10^L)(hl:l.length<=1000):((l.map g).sum).natAbs<10^(L+4):=by
 have h1:∀(k:List α),(∀a∈k,(g a).natAbs<10^L)->((k.map g).sum).natAbs<=k.length*10^L:=by
  intro k
  induction k with
  |nil=>intro _;simp
  |cons a k ih=>
   intro hk;have e1:=hk a (by simp);have e2:=ih (fun b hb=>hk b (by simp[hb]));rw[List.map_cons,List.sum_cons,List.length_cons,Nat.succ_mul];omega
 have h2:=h1 l h;have h3:l.length*10^L<=1000*10^L:=Nat.mul_le_mul_right _ hl;have h4:10^(L+4)=10000*10^L:=by rw[Nat.pow_add,Nat.mul_comm]
 have h5:0<10^L:=Nat.pow_pos (by omega);rw[h4];generalize 10^L=P at*;generalize l.length*P=Z at*;omega
theorem Zkk{q:Rat}{K:Nat}(h:RB K q)(hK:1<=K):(JY q).natAbs<10^(K+1):=by
 have h1:=Zc5 q;have h2:=(JK q).2;have h3:=h.1;have h4:10^(K+1)=10*10^K:=by rw[Nat.pow_add,Nat.mul_comm]
 have h5:10^1<=10^K:=Nat.pow_le_pow_right (by omega) hK;rw[h4];generalize 10^K=P at*
 rcases h2 with h2|⟨h2,_⟩<;>omega
theorem Ze5{q:Rat}{K:Nat}(h:RB K q)(hK:1<=K):(QK q).natAbs<10^(K+1):=by
 have h1:=Zc5 q;have h3:=h.1;have h4:10^(K+1)=10*10^K:=by rw[Nat.pow_add,Nat.mul_comm]
 have h5:10^1<=10^K:=Nat.pow_le_pow_right (by omega) hK;rw[h4];generalize 10^K=P at*;omega
theorem Zih{q:Rat}{K:Nat}(h:RB K q):RB K (q-((QK q:Int):Rat)):=by
 rw[ZaI];obtain⟨h1,h2⟩:=XL q
 have hd:(q.den:Int)≠0:=by have:=q.den_nz;omega
 exact RB.divInt (by have:=h.2;omega) (by have:=h.2;omega) hd
theorem JO{p q:Rat}{K:Nat}(hp:RB K p)(hq:RB K q):RB (K+K+2) (p*q):=by
 have h:=ZjP (QF hp) (QF hq) (by omega);rw[Qj,Qj] at h;exact h.more (by omega)
theorem JP{k:Int}{K:Nat}(h:k.natAbs<10^K)(hK:1<=K):RB K ((k:Int):Rat):=by
 refine⟨by simpa using h,?_⟩;have:10^1<=10^K:=Nat.pow_le_pow_right (by omega) hK
 simp
 omega
theorem ZbC{old:List Lot}{m:Mp}{L:Nat}(h:∀y∈old,y.Ok)(hm:m.Ok)(hl:old.length<=1000)(hL:1<=L)(hq:∀y∈old,y.q.length<=L)(hc:∀y∈old,y.c.length<=L)(hr:m.ratio.Sz L)(hpr:m.price.Sz L):PlK (4*L+40) (Qe old m):=by
 have hsq:((old.map fun y=>val y.q).sum).natAbs<10^(L+4):=Za4 (fun y hy=>Qz (hq y hy)) hl;have hsc:((old.map fun y=>val y.c).sum).natAbs<10^(L+4):=Za4 (fun y hy=>Qz (hc y hy)) hl;have hok:=Jt h hm;obtain⟨nq,nc⟩:=YJ h
 obtain⟨l1,l2,l3,l4⟩:=Xn old m
 have hex:RB (2*L+10) (Qe old m).exact:=by
  rw[hok.ex];exact(JO (JP hsq (by omega)) ((Zae hr hL).more (show L<=L+4 by omega))).more (by omega)
 have hparts:(Qe old m).parts.natAbs<10^(2*L+11):=Ze5 hex (by omega);have hpart:RB (2*L+10) (Qe old m).part:=Zih hex;have hmoved:(Qe old m).moved.natAbs<10^(L+4):=by have h1:=hok.moved0;have h2:=hok.moved1;omega
 have htaken:(Qe old m).taken.natAbs<10^(L+4):=by have h1:=hok.taken0;have h2:=hok.taken1;have h3:=hok.moved0;omega
 have hcash:(Qe old m).cash.natAbs<10^(4*L+23):=by
  have e:(Qe old m).cash=JY ((Qe old m).part*m.price.rat):=rfl;rw[e];exact Zkk ((JO hpart ((Zae hpr hL).more (show L<=2*L+10 by omega))).more (by omega)) (by omega)
 have nm:∀x∈(Qe old m).m,0<=x:=XH hok.moved0 nc;have nn:∀x∈(Qe old m).n,0<=x:=XH hok.parts0 nq;have nf:∀x∈(Qe old m).f,0<=x:=XH hok.taken0 nm;have np:∀x∈(Qe old m).p,0<=x:=XH hok.cash0 nq
 have hsum:(Qe old m).n.sum.natAbs<10^(2*L+11)/\(Qe old m).m.sum.natAbs<10^(L+4)/\(Qe old m).f.sum.natAbs<10^(L+4)/\(Qe old m).p.sum.natAbs<10^(4*L+23):=by
  by_cases ho:old=[]
  ·subst ho;rw[List.length_nil] at l1 l2 l3 l4;rw[List.eq_nil_of_length_eq_zero l1,List.eq_nil_of_length_eq_zero l2,List.eq_nil_of_length_eq_zero l3,List.eq_nil_of_length_eq_zero l4];exact⟨Nat.pow_pos (by omega),Nat.pow_pos (by omega),Nat.pow_pos (by omega),Nat.pow_pos (by omega)⟩
  ·obtain⟨s1,s2,s3,s4,_⟩:=VE h hm ho
   rw[s1,s2,s3,s4];exact⟨hparts,hmoved,htaken,hcash⟩
 have gm:=ZcV nm hsum.2.1;have gf:=ZcV nf hsum.2.2.1;have gmv:∀i,((Qe old m).mv i).natAbs<10^(L+5):=fun i=>Vz (gm i) (gf i)
 have hrest:∀i,((Qe old m).rest i).natAbs<=(min i old.length)*10^(L+5):=by
  intro i
  induction i with
  |zero=>show(0:Int).natAbs<=_;simp
  |succ i ih=>
   rw[Zb9];have h1:=gmv i
   have h0:i>=old.length->(Qe old m).mv i=0:=fun hi=>by
    unfold Plan.mv;rw[List.getD_eq_getElem?_getD,List.getD_eq_getElem?_getD,List.getElem?_eq_none (by omega),List.getElem?_eq_none (by omega)];rfl
   generalize (Qe old m).mv i=v at*;generalize (Qe old m).rest i=r at*
   by_cases hi:i<old.length
   ·rw[Nat.min_eq_left (by omega)] at ih ⊢;rw[Nat.succ_mul];generalize 10^(L+5)=P at*;generalize i*P=Z at*
    split<;>omega
   ·rw[Nat.min_eq_right (by omega)] at ih ⊢;rw[h0 (by omega)];simpa using ih
 refine⟨hex.more (by omega),Jd hparts (by omega),hpart.more (by omega),Jd hmoved (by omega),Jd htaken (by omega),Jd hcash (by omega),fun i=>Jd (ZcV nn hsum.1 i) (by omega),fun i=>Jd (gm i) (by omega),fun i=>Jd (gf i) (by omega),fun i=>Jd (ZcV np hsum.2.2.2 i) (by omega),fun i=>Jd (gmv i) (by omega),fun i=> ?_⟩;have h1:=hrest i;have h2:(min i old.length)*10^(L+5)<=1000*10^(L+5):=Nat.mul_le_mul_right _ (by omega);have h4:10^(L+5+4)=10000*10^(L+5):=by rw[Nat.pow_add,Nat.mul_comm]
 have h5:0<10^(L+5):=Nat.pow_pos (by omega);refine Jd (K:=L+5+4) ?_ (by omega);rw[h4];generalize 10^(L+5)=P at*;generalize (min i old.length)*P=Z at*;omega
end
section
theorem Zi4(l:List UInt8)(h:l.all Qx=true):∀acc:Nat,acc*10^l.length+Qk l<1000000000000000000->Lib.parseUint10 acc l=.ok (acc*10^l.length+Qk l):=by
 induction l with
 |nil=>intro acc _;simp[Lib.parseUint10,Qk]
 |cons b l ih=>
  intro acc hb;simp only[List.all_cons,Bool.and_eq_true] at h;have h1:=(QM b).1 h.1
  have e:Qk (b::l)=(b.toNat-48)*10^l.length+Qk l:=by
   have:=YV [b] l
   simpa[Qk] using this
  rw[e,List.length_cons,Nat.pow_succ] at hb ⊢;have hp:1<=10^l.length:=Nat.pow_pos (by omega)
  have e2:acc*(10^l.length*10)+((b.toNat-48)*10^l.length+Qk l)=(acc*10+(b.toNat-48))*10^l.length+Qk l:=by
   rw[Nat.add_mul,Nat.mul_assoc,Nat.mul_comm 10,Nat.add_assoc]
  rw[e2] at hb ⊢;have h3:acc*10+(b.toNat-48)<=(acc*10+(b.toNat-48))*10^l.length:=Nat.le_mul_of_pos_right _ hp;unfold Lib.parseUint10;rw[if_pos (by omega),if_neg (by omega),if_neg (by omega)];exact ih h.2 _ hb
theorem Zkw{l:List UInt8}(h:l.all Qx=true)(hn:l≠[])(h4:l.length<=17):Lib.atoiAll l=.ok (Qk l:Int):=by
 cases l with
 |nil=>exact absurd rfl hn
 |cons b t=>
  have hb:=h;simp only[List.all_cons,Bool.and_eq_true] at hb;have h1:=(QM b).1 hb.1;rw[Lib.atoiAll_plain b t (by omega) (by omega)];unfold Lib.parseMag;rw[if_neg (by simp)];have hv:=XR h;have hp:10^(b::t).length<=10^17:=Nat.pow_le_pow_right (by omega) h4;rw[Zi4 _ h 0 (by omega)];simp only[Nat.zero_mul,Nat.zero_add];unfold Lib.signless;simp only;rw[if_neg (by omega)]
theorem Zi5{k:Nat}(h1:1<=k)(h2:k<=9999):Zaf (QN k)=true:=by
 unfold Zaf;obtain⟨b,l,e,hb,_⟩:=Jl k (by omega)
 have h3:=YY (m:=k) (L:=4) (by omega);have h4:=ZcZ k (by omega)
 have h5:(some b:Option UInt8)≠some 48:=fun e2=>by
  injection e2 with e2;subst e2;exact absurd hb (by decide)
 rw[Jk,decide_eq_true h3,decide_eq_true h4,e,List.head?_cons,decide_eq_true h5];rfl
theorem Zi6(l:List UInt8):Zaf l=match Lib.atoiAll l with| .ok v=>decide (1<=v)&&(decide (v<=9999)&&(Lib.itoa v==l))|_=>false:=by
 by_cases h:Zaf l=true
 ·have h':=h;unfold Zaf at h';simp only[Bool.and_eq_true,decide_eq_true_eq] at h';obtain⟨⟨⟨a1,a2⟩,a3⟩,a4⟩:=h'
  have hne:l≠[]:=fun e=>by rw[e] at a1;simp at a1
  rw[h,Zkw a4 hne (by omega)]
  have hd:QN (Qk l)=l:=Jn a4 (fun b t e=>by
   rw[e] at a3;simp only[List.head?_cons,ne_eq,Option.some.injEq] at a3;simpa using a3)
  have hv:Qk l<10^4:=Nat.lt_of_lt_of_le (XR a4) (Nat.pow_le_pow_right (by omega) a2);have h0:Qk l≠0:=fun e=>by rw[e] at hd;exact hne hd.symm
  have hi:Lib.itoa (Qk l:Int)=l:=by
   unfold Lib.itoa;rw[if_neg (by omega)]
   conv=>rhs;rw[<-hd]
   unfold QN;rw[if_neg h0];simp
  simp only[hi,beq_self_eq_true,Bool.and_true];rw[decide_eq_true (show(1:Int)<=(Qk l:Int) by omega),decide_eq_true (show(Qk l:Int)<=9999 by omega)];rfl
 ·have hf:Zaf l=false:=by simpa using h
  rw[hf]
  rcases ha:Lib.atoiAll l with v|_|_
  ·simp only
   cases h1:decide (1<=v) with
   |false=>rfl
   |true=>
    cases h2:decide (v<=9999) with
    |false=>rfl
    |true=>
     cases h3:Lib.itoa v==l with
     |false=>rfl
     |true=>
      exfalso
      apply h
      have h3:=eq_of_beq h3;simp only[decide_eq_true_eq] at h1 h2;rw[<-h3];unfold Lib.itoa;rw[if_neg (by omega)];have:=Zi5 (k:=v.toNat) (by omega) (by omega)
      unfold QN at this;rw[if_neg (by omega)] at this;simpa using this
  ·rfl
  ·rfl
def Vn(s:List UInt8):List UInt8:=s.takeWhile (·!=47)
def Zap(s:List UInt8):List UInt8:=(s.dropWhile (·!=47)).drop 1
theorem ZeA(s:List UInt8):(47∈s->Lib.indexByte s 47=((Vn s).length:Nat)/\(Vn s).length<s.length/\s.take (Vn s).length=Vn s/\s.drop ((Vn s).length+1)=Zap s)/\(47 ∉ s->Lib.indexByte s 47= -1/\Vn s=s/\Zap s=[]):=by
 induction s with
 |nil=>exact⟨fun h=>by simp at h,fun _=>⟨rfl,rfl,rfl⟩⟩
 |cons b l ih=>
  by_cases hb:b=47
  ·subst hb;refine⟨fun _=> ?_,fun h=>absurd (List.mem_cons_self) h⟩;refine⟨rfl,by simp[Vn],by simp[Vn],?_⟩;simp[Vn,Zap]
  ·have e1:Vn (b::l)=b::Vn l:=by unfold Vn;rw[List.takeWhile_cons];simp[hb]
   have e2:Zap (b::l)=Zap l:=by unfold Zap;rw[List.dropWhile_cons];simp[hb]
   have hbb:(b==47)=false:=by simpa using hb
   constructor
   ·intro h
    have hl:47∈l:=by
     rcases List.mem_cons.1 h with e|h
     ·exact absurd e.symm hb
     ·exact h
    obtain⟨a1,a2,a3,a4⟩:=ih.1 hl
    refine⟨?_,?_,?_,?_⟩
    ·rw[Lib.indexByte,hbb,a1,e1];simp only[Bool.false_eq_true,if_false];rw[if_neg (by simp)];simp
    ·rw[e1];simp;omega
    ·rw[e1];simp[a3]
    ·rw[e1,e2];simpa using a4
   ·intro h;have hl:47 ∉ l:=fun hm=>h (List.mem_cons_of_mem b hm)
    obtain⟨a1,a2,a3⟩:=ih.2 hl
    refine⟨?_,by rw[e1,a2],by rw[e2,a3]⟩;rw[Lib.indexByte,hbb,a1];rfl
theorem Zkx(s:List UInt8):idB s=(Zaf (Zap s)&&QG (Vn s)):=by
 unfold idB
 by_cases h:47∈s
 ·rw[decide_eq_true h,Bool.true_and,Bool.and_comm];rfl
 ·rw[decide_eq_false h];have e:Zap s=[]:=((ZeA s).2 h).2.2;rw[e];rfl
end
section
theorem Zil(l:List UInt8)(a b:Nat):(⟨l.toArray⟩:ByteArray).extract a b=⟨((l.take b).drop a).toArray⟩:=by
 apply ByteArray.ext
 rw[ByteArray.data_extract,List.extract_toArray,List.extract_eq_take_drop,List.drop_take]
theorem Zi7(s:List UInt8)(hs:s.length<=1000000000):Xb 207 #[S s,.string ⟨#[47]⟩] (.tuple #[S (Vn s),S (Zap s),.bool (decide (47∈s))]):=by
 intro w hp;have H:=jq (Kp.start hp);have HIX:=jq (fun W=>Tryz.stringslite_Index_one ⟨s.toArray⟩ 47 W);rw[show(⟨s.toArray⟩:ByteArray).data.toList=s from rfl] at HIX;obtain⟨i1,i2⟩:=ZeA s
 have hsz:=Qs s;clear hp
 by_cases h:47∈s
 ·obtain⟨a1,a2,a3,a4⟩:=i1 h
  rw[a1] at HIX;rw[decide_eq_true h];have HN:=jq (show(⟨s.toArray⟩:ByteArray).extract 0 (Vn s).length=⟨(Vn s).toArray⟩ by rw[Zil,a3];rfl);have HR:=jq (show(⟨s.toArray⟩:ByteArray).extract ((Vn s).length+1) s.length=⟨(Zap s).toArray⟩ by rw[Zil,List.take_length,a4]);generalize hk:(Vn s).length=k at*;have hb1:k<(⟨s.toArray⟩:ByteArray).size:=by rw[hsz];exact a2
  have hb2:(⟨s.toArray⟩:ByteArray).size<=1000000000:=by rw[hsz];exact hs
  clear i1 i2 h a1 a2 a3 a4 hk hsz hs;unfold S;go_enter Tryz.func207,Tryz.ntmps207
  go_wp2_with fail
  refine(HIX.out _).mono ?_;rintro e w1 ⟨rfl,rfl⟩;go_upto_region 3 with (fail)
  go_region
  all_goals
   go_wp2_with fail
   go_ret3
   rw[HN.out,HR.out];exact⟨rfl,H.out.bl.drew⟩
 ·obtain⟨a1,a2,a3⟩:=i2 h
  rw[a1] at HIX;rw[decide_eq_false h,a2,a3];clear i1 i2 h a1 a2 a3 hsz hs;unfold S;go_enter Tryz.func207,Tryz.ntmps207
  go_wp2_with fail
  refine(HIX.out _).mono ?_;rintro e w1 ⟨rfl,rfl⟩;go_wp2_with fail
  first|go_ret3|skip
  exact⟨rfl,H.out.bl⟩
theorem Zky(s:List UInt8)(hs:s.length<=1000000000):Xb 173 #[S s,.string ⟨#[47]⟩] (.tuple #[S (Vn s),S (Zap s),.bool (decide (47∈s))]):=by
 intro w hp;have H:=jq (Kp.start hp);have HC:=jq (Zi7 s hs);clear hp hs;generalize Vn s=a at*;generalize Zap s=b at*;generalize decide (47∈s)=bb at*;unfold S at*
 go_enter Tryz.func173,Tryz.ntmps173
 go_wp2_with fail
 refine(HC.out _ H.out.pw).mono ?_;rintro e w1 ⟨rfl,hb⟩;go_wp2_with fail
 first|go_ret3|skip
 exact⟨rfl,(H.out.here hb).bl⟩
theorem Zkz(s:List UInt8)(hs:s.length<=1000000):Xb 131 #[S s] (.bool (idB s)):=by
 intro w hp;have H:=jq (Kp.start hp);have HC:=jq (Zky s (by omega));have HB:=jq (Zkx s);rw[HB.out,Zi6]
 have hrl:(Zap s).length<=s.length:=by
  unfold Zap;rw[List.length_drop];have:=(List.dropWhile_suffix (fun x:UInt8=>x !=47) (l:=s)).length_le
  omega
 have HNM:=jq (Vc (Vn s));generalize Vn s=a at*;generalize Zap s=r at*;generalize decide (47∈s)=bb at*;generalize QG a=nb at*;have hrs:=Qs r;clear HB
 rcases ha:Lib.atoiAll r with v|_|_
 ·have HA:=jq (fun W=>(Tryz.strconv_Atoi_ok ⟨r.toArray⟩ (by rw[hrs];omega) v ha W).mono (R':=fun(e:Ending) (w':World)=>e=Ending.returned (.tuple #[.int .i64 v,.nilIface])/\Below W.1.size W w') (by
   rintro e w' ⟨he,rfl|⟨t,rfl⟩⟩
   ·exact⟨he,Below.refl _ _⟩
   ·exact⟨he,Lib.bytesWorld_below _ _ _⟩))
  obtain⟨v1,v2⟩:=Lib.atoiAll_bounds ha
  have HI:=jq (fun W (hp:Env W)=>Zf7 v v1 v2 W hp.pow);clear ha hs hrl hrs hp;simp only;generalize Lib.itoa v=iv at*
  by_cases h1:1<=v
  ·by_cases h2:v<=9999
   ·rw[decide_eq_true h1,decide_eq_true h2,Bool.true_and,Bool.true_and]
    cases h3:(iv==r)
    ·unfold S at*
     go_enter Tryz.func131,Tryz.ntmps131
     go_wp2_with fail
     refine(HC.out _ H.out.pw).mono ?_;rintro e w1 ⟨rfl,hb⟩;replace H:=jq (H.out.here hb);clear hb;go_wp2_with fail
     refine(HA.out _).mono ?_;rintro e w2 ⟨rfl,hb⟩;replace H:=jq (H.out.here hb);clear hb;go_wp2_with fail
     refine(HI.out _ H.out.pw).mono ?_;rintro e w3 ⟨rfl,hb⟩;replace H:=jq (H.out.here hb);clear hb;go_wp2_with fail
     first|go_ret|skip
     exact⟨rfl,H.out.bl⟩
    ·unfold S at*
     go_enter Tryz.func131,Tryz.ntmps131
     go_wp2_with fail
     refine(HC.out _ H.out.pw).mono ?_;rintro e w1 ⟨rfl,hb⟩;replace H:=jq (H.out.here hb);clear hb;go_wp2_with fail
     refine(HA.out _).mono ?_;rintro e w2 ⟨rfl,hb⟩;replace H:=jq (H.out.here hb);clear hb;go_wp2_with fail
     refine(HI.out _ H.out.pw).mono ?_;rintro e w3 ⟨rfl,hb⟩;replace H:=jq (H.out.here hb);clear hb;go_wp2_with fail
     refine(HNM.out _ H.out.pw).mono ?_;rintro e w4 ⟨rfl,hb⟩;go_wp2_with fail
     first|go_ret|skip
     exact⟨rfl,(H.out.here hb).bl⟩
   ·rw[decide_eq_true h1,decide_eq_false h2,Bool.true_and,Bool.false_and,Bool.false_and];unfold S at*
    go_enter Tryz.func131,Tryz.ntmps131
    go_wp2_with fail
    refine(HC.out _ H.out.pw).mono ?_;rintro e w1 ⟨rfl,hb⟩;replace H:=jq (H.out.here hb);clear hb;go_wp2_with fail
    refine(HA.out _).mono ?_;rintro e w2 ⟨rfl,hb⟩;go_wp2_with fail
    first|go_ret|skip
    exact⟨rfl,(H.out.here hb).bl⟩
  ·rw[decide_eq_false h1,Bool.false_and,Bool.false_and];unfold S at*
   go_enter Tryz.func131,Tryz.ntmps131
   go_wp2_with fail
   refine(HC.out _ H.out.pw).mono ?_;rintro e w1 ⟨rfl,hb⟩;replace H:=jq (H.out.here hb);clear hb;go_wp2_with fail
   refine(HA.out _).mono ?_;rintro e w2 ⟨rfl,hb⟩;go_wp2_with fail
   first|go_ret|skip
   exact⟨rfl,(H.out.here hb).bl⟩
 ·have HA:=jq (fun W (hp:Env W)=>let⟨tp,p,hv⟩:=hp.syn;(Tryz.strconv_Atoi_syntax_var ⟨r.toArray⟩ (by rw[hrs];omega) ha tp p W hv).mono (R':=fun(e:Ending) (w':World)=>∃(N:Nat) (tt:TypeId),e=Ending.returned (.tuple #[.int .i64 0,.iface tt (.pointer (some ⟨N,0,none⟩))])/\Below W.1.size W w') (by
   rintro e w' ⟨N,he,_,_,hb⟩;exact⟨N,_,he,hb⟩))
  clear ha hs hrl hrs hp;rw[Bool.false_and];unfold S at*
  go_enter Tryz.func131,Tryz.ntmps131
  go_wp2_with fail
  refine(HC.out _ H.out.pw).mono ?_;rintro e w1 ⟨rfl,hb⟩;replace H:=jq (H.out.here hb);clear hb;go_wp2_with fail
  refine(HA.out _ H.out.pw).mono ?_;rintro e w2 ⟨N,tt,rfl,hb⟩;go_wp2_with fail
  first|go_ret|skip
  exact⟨rfl,(H.out.here hb).bl⟩
 ·have HA:=jq (fun W (hp:Env W)=>let⟨tp,p,hv⟩:=hp.rng;(Tryz.strconv_Atoi_range_var ⟨r.toArray⟩ (by rw[hrs];omega) ha tp p W hv).mono (R':=fun(e:Ending) (w':World)=>∃(z:Int) (N:Nat) (tt:TypeId),e=Ending.returned (.tuple #[.int .i64 z,.iface tt (.pointer (some ⟨N,0,none⟩))])/\Below W.1.size W w') (by
   rintro e w' ⟨N,he,_,_,hb⟩;exact⟨_,N,_,he,hb⟩))
  clear ha hs hrl hrs hp;rw[Bool.false_and];unfold S at*
  go_enter Tryz.func131,Tryz.ntmps131
  go_wp2_with fail
  refine(HC.out _ H.out.pw).mono ?_;rintro e w1 ⟨rfl,hb⟩;replace H:=jq (H.out.here hb);clear hb;go_wp2_with fail
  refine(HA.out _ H.out.pw).mono ?_;rintro e w2 ⟨z,N,tt,rfl,hb⟩;go_wp2_with fail
  first|go_ret|skip
  exact⟨rfl,(H.out.here hb).bl⟩
end
section
def Zmy(ls l:List Lot):List Lot:=l.filter (fun x=>decide (x.id ∉ ls.map (·.id)))
section
variable {ls:List Lot} {m:Mp} {A B:List Lot}
abbrev ZkA(ls:List Lot)(m:Mp):List Lot:=Qb ls m.inst
abbrev plO(ls:List Lot)(m:Mp):Plan:=Qe (Qb ls m.inst) m
abbrev mdO(ls:List Lot)(m:Mp):List Lot:=QZ m (plO ls m) (ZkA ls m)
theorem MapOk.ids(h:MapOk ls m A B):∀z∈A++B,z.id∈ls.map (·.id):=by
 intro z hz;rw[<-h.cut] at hz;exact(ZaL m _ 0 ls).subset (List.mem_map.2 ⟨z,hz,rfl⟩)
theorem MapOk.new(h:MapOk ls m A B):Zmy ls (A++mdO ls m++B)=mdO ls m:=by
 unfold Zmy
 have hA:A.filter (fun x=>decide (x.id ∉ ls.map (·.id)))=[]:=by
  rw[List.filter_eq_nil_iff];intro z hz;have:=h.ids z (by simp[hz])
  simpa using this
 have hB:B.filter (fun x=>decide (x.id ∉ ls.map (·.id)))=[]:=by
  rw[List.filter_eq_nil_iff];intro z hz;have:=h.ids z (by simp[hz])
  simpa using this
 rw[List.filter_append,List.filter_append,hA,hB,List.nil_append,List.append_nil,List.filter_eq_self];intro z hz;have:=h.free z hz
 simpa using this
theorem Za5(m:Mp)(x:Plan)(old:List Lot)(i:Nat)(hi:i<=old.length):
 ((QT m x old i).map (fun g=>val g.cost)).sum=((List.range i).map (fun k=>x.f.getD k 0)).sum/\((QT m x old i).map (fun g=>val g.proceeds)).sum=((List.range i).map (fun k=>x.p.getD k 0)).sum:=by
 induction i with
 |zero=>exact⟨rfl,rfl⟩
 |succ i ih=>
  obtain⟨h1,h2⟩:=ih (by omega)
  have e:QT m x old (i+1)=QT m x old i++(if x.p.getD i 0=0/\x.f.getD i 0=0 then[] else[{cause:=m.cause,lot:=(old[i]'(by omega)).id,inst:=m.other,acq:=(old[i]'(by omega)).acq,closed:=m.day,q:=[],proceeds:=Qa (x.p.getD i 0),cost:=Qa (x.f.getD i 0),deferred:=[],replaced:=[]}]):=by
   unfold QT;rw[List.range_succ,List.filterMap_append]
   congr 1
   simp only[List.filterMap_cons,List.filterMap_nil,List.getElem?_eq_getElem (show i<old.length by omega)]
   by_cases h:x.p.getD i 0=0/\x.f.getD i 0=0
   ·simp only[if_pos h]
   ·simp only[if_neg h]
  rw[e,List.map_append,List.map_append,XW,XW,h1,h2,Zam,Zam]
  by_cases h:x.p.getD i 0=0/\x.f.getD i 0=0
  ·rw[if_pos h,h.1,h.2];exact⟨by simp,by simp⟩
  ·rw[if_neg h];simp only[List.map_cons,List.map_nil,List.sum_cons,List.sum_nil,Qc];exact⟨by omega,by omega⟩
theorem MapOk.gains(h:MapOk ls m A B):((Xq m (plO ls m) (ZkA ls m)).map (fun g=>val g.cost)).sum=(plO ls m).taken/\((Xq m (plO ls m) (ZkA ls m)).map (fun g=>val g.proceeds)).sum=(plO ls m).cash:=by
 have hok:=Jt (Xr h.ok m.inst) h.mp;obtain⟨s1,s2,s3,s4,s5⟩:=VE (Xr h.ok m.inst) h.mp h.old
 obtain⟨l1,l2,l3,l4⟩:=Xn (Qb ls m.inst) m
 unfold Xq
 by_cases hp:(plO ls m).part=0
 ·rw[if_pos hp,hok.whole hp,hok.cash1 hp];exact⟨rfl,rfl⟩
 ·rw[if_neg hp];obtain⟨e1,e2⟩:=Za5 m (plO ls m) (ZkA ls m) (ZkA ls m).length (Nat.le_refl _)
  have f1:=Zev (plO ls m).f;have f2:=Zev (plO ls m).p;rw[l3] at f1;rw[l4] at f2;rw[e1,e2,f1,f2,s3,s4];exact⟨rfl,rfl⟩
end
end
section
theorem Zhv(m:Mp)(x:Plan)(old:List Lot)(i:Nat)(hi:i<old.length):QW m x old (i+1)=QW m x old i++Zbz m x i old[i]:=by
 unfold QW;rw[List.range_succ,List.flatMap_append];simp[List.getElem?_eq_getElem hi]
theorem Zdp{s t:Stp}(h:s∈Ye t):s=t:=by
 unfold Ye at h
 by_cases hc:t.q=[]/\t.made=[]/\t.cost=[]
 ·rw[if_pos hc] at h;cases h
 ·rw[if_neg hc] at h;exact List.mem_singleton.1 h
end
section
theorem Zi9(n:List Int){i k:Nat}(h:i<=k):QD n i<=QD n k:=by
 unfold QD;have e:n.take i=(n.take k).take i:=by rw[List.take_take,Nat.min_eq_left h]
 rw[e];exact(List.take_sublist i (n.take k)).countP_le
end
section
section
variable {ls:List Lot} {m:Mp}
end
end
section
def Mp.none:Mp:=⟨[],0,[],[],Fr.zero,Fr.zero,Fr.zero,false⟩
end
section
end
section
end
section
theorem YG{n:Nat}{l:List UInt8}(h1:l.all Qx=true)(h2:∀b t,l=b::t->(b==48)=false)(h3:Qk l=n):Qa (n:Int)=l:=by
 rw[XU,<-h3,Jn h1 h2]
theorem VM{b:UInt8}{t:List UInt8}(h:(b==48)=false):∀c u,b::t=c::u->(c==48)=false:=fun c u e=>by injection e with e1 _;rw[<-e1];exact h
def l0:List Lot:=[⟨[97,47,49],[97,98,99],1,2,[49,48],[49,48,48],[]⟩,⟨[98,47,49],[97,98,99],3,3,[53],[56,48],[]⟩]
def m0:Mp:=⟨[120],9,[97,98,99],[100,101,102],⟨[49],[50]⟩,⟨[49],[]⟩,⟨[57],[]⟩,false⟩
def P0:Plan:={exact:=15/2,parts:=7,part:=1/2,moved:=180,taken:=12,cash:=4,n:=[5,2],m:=[100,80],f:=[7,5],p:=[3,1]}
def r0:List Lot:=[⟨[120,47,49],[100,101,102],1,2,[53],[57,51],[53]⟩,⟨[120,47,50],[100,101,102],3,3,[50],[55,53],[50]⟩]
def g0:List Gain:=[⟨[120],[97,47,49],[100,101,102],1,9,[],[51],[55],[],[]⟩,⟨[120],[98,47,49],[100,101,102],3,9,[],[49],[53],[],[]⟩]
theorem t1:Qa 1=[49]:=YG (n:=1) (by decide) (VM (by decide)) (by decide)
theorem t2:Qa 2=[50]:=YG (n:=2) (by decide) (VM (by decide)) (by decide)
theorem t3:Qa 3=[51]:=YG (n:=3) (by decide) (VM (by decide)) (by decide)
theorem t5:Qa 5=[53]:=YG (n:=5) (by decide) (VM (by decide)) (by decide)
theorem t7:Qa 7=[55]:=YG (n:=7) (by decide) (VM (by decide)) (by decide)
theorem t9:Qa 9=[57]:=YG (n:=9) (by decide) (VM (by decide)) (by decide)
theorem t10:Qa 10=[49,48]:=YG (n:=10) (by decide) (VM (by decide)) (by decide)
theorem t75:Qa 75=[55,53]:=YG (n:=75) (by decide) (VM (by decide)) (by decide)
theorem t80:Qa 80=[56,48]:=YG (n:=80) (by decide) (VM (by decide)) (by decide)
theorem t93:Qa 93=[57,51]:=YG (n:=93) (by decide) (VM (by decide)) (by decide)
theorem ZnU:Qa 100=[49,48,48]:=YG (n:=100) (by decide) (VM (by decide)) (by decide)
theorem d1_:QN 1=[49]:=by rw[<-t1];exact(XU 1).symm
theorem d2_:QN 2=[50]:=by rw[<-t2];exact(XU 2).symm
theorem up2{t a b:Int}(h:Jb (QI t [a,b]) 0 1=true):upL t [a,b]=[0,1].take (Xs t [a,b]).toNat:=by
 unfold upL QV;rw[show(QI t [a,b]).length=2 from rfl,show List.range 2=[0,1] from rfl,List.mergeSort_of_pairwise (by simpa using h)]
theorem p1:Xz 7 [10,5]=[5,2]:=by unfold Xz;rw[up2 (by decide)];decide
theorem p2:Xz 180 [100,80]=[100,80]:=by unfold Xz;rw[up2 (by decide)];decide
theorem p3:Xz 12 [100,80]=[7,5]:=by unfold Xz;rw[up2 (by decide)];decide
theorem p4:Xz 4 [10,5]=[3,1]:=by unfold Xz;rw[up2 (by decide)];decide
theorem Zmw:Qe l0 m0=P0:=by
 have hr:m0.ratio.rat=1/2:=by decide+kernel
 have hs:m0.share.rat=1:=by decide+kernel
 have hp:m0.price.rat=9:=by decide+kernel
 have hq:l0.map (fun x=>val x.q)=[10,5]:=by decide
 have hc:l0.map (fun x=>val x.c)=[100,80]:=by decide
 unfold Qe;simp only[hr,hs,hp,hq,hc];have h1:(((([10,5]:List Int).sum:Int)):Rat)*(1/2)=15/2:=by decide+kernel
 have h2:JY (1*((([100,80]:List Int).sum:Int):Rat))=180:=by decide+kernel
 have h3:QK (15/2:Rat)=7:=by decide+kernel
 have h4:(15/2:Rat)-(((7:Int)):Rat)=1/2:=by decide+kernel
 have h5:JY ((1/2:Rat)*9)=4:=by decide+kernel
 have h6:(if(1/2:Rat)=0 then(0:Int) else if(7:Int)=0 then 180 else Vm 180 (Yr (15/2:Rat)) (15/2:Rat).num)=12:=by decide+kernel
 simp only[h1,h2,h3,h4,h5,h6];unfold P0 Yg;rw[if_neg (by decide),if_neg (by decide),if_neg (by decide),p1,p2,p3,p4];rfl
theorem Zlr:LotsOk l0/\m0.Ok:=by
 refine⟨⟨by decide,?_,by decide⟩,?_⟩
 ·intro y hy;unfold l0 at hy;simp only[List.mem_cons,List.mem_nil_iff,or_false] at hy
  rcases hy with rfl|rfl
  ·exact⟨by decide,by decide,by decide,by decide,by decide,by unfold QJ;rw[show val [49,48]=10 by decide,t10];decide,by unfold QJ;rw[show val [49,48,48]=100 by decide,ZnU];decide,by decide,by decide,.inl rfl⟩
  ·exact⟨by decide,by decide,by decide,by decide,by decide,by unfold QJ;rw[show val [53]=5 by decide,t5];decide,by unfold QJ;rw[show val [56,48]=80 by decide,t80];decide,by decide,by decide,.inl rfl⟩
 ·have hr:m0.ratio.rat=1/2:=by decide+kernel
  have hs:m0.share.rat=1:=by decide+kernel
  have hp:m0.price.rat=9:=by decide+kernel
  refine⟨by decide,by decide,by decide,by decide,?_,?_,?_,?_,?_,?_,?_,by decide,fun _=>hs⟩
  ·unfold Fr.ok;rw[hr];unfold Qf;rw[show(1/2:Rat).num=1 by decide+kernel,show(1/2:Rat).den=2 by decide+kernel,if_neg (by decide),t1,show((2:Nat):Int)=2 from rfl,t2];rfl
  ·unfold Fr.ok;rw[hs];unfold Qf;rw[show(1:Rat).num=1 by decide+kernel,show(1:Rat).den=1 by decide+kernel,if_pos rfl,t1];rfl
  ·unfold Fr.ok;rw[hp];unfold Qf;rw[show(9:Rat).num=9 by decide+kernel,show(9:Rat).den=1 by decide+kernel,if_pos rfl,t9];rfl
  ·rw[hr];decide+kernel
  ·rw[hs];decide+kernel
  ·rw[hs];decide+kernel
  ·rw[hp];decide+kernel
theorem Zmx:QZ m0 P0 l0=r0:=by
 have e:QZ m0 P0 l0=[ZcN m0 P0 2 0 l0[0],ZcN m0 P0 2 1 l0[1]]:=rfl;rw[e];unfold ZcN QO;rw[show QD P0.n 0=0 by decide,show QD P0.n 1=1 by decide,show P0.n.getD 0 0=5 from rfl,show P0.n.getD 1 0=2 from rfl,show P0.mv 0=93 by decide,show P0.mv 1=75 by decide,show P0.rest 2=0 by decide];simp only[Nat.zero_add,Nat.reduceAdd,Int.add_zero,if_true,if_false,Nat.one_ne_zero,d1_,d2_,t5,t2,t93,t75];rfl
theorem Zm9:Yz l0 m0=(⟨r0,g0,Yh m0 P0 l0⟩,0):=by
 obtain⟨hl,hm⟩:=Zlr
 have ho:Qb l0 m0.inst=l0:=by decide
 unfold Yz;rw[if_neg (show ¬(Xl l0≠0\/JE m0≠0) from fun h=>h.elim (fun h=>h ((VQ _).2 hl)) (fun h=>h ((Za1 _).2 hm)))];simp only[ho,Zmw,Zmx];rw[if_neg (by decide),if_neg (by decide)];have hk:Qn m0 P0.m 0 l0=[]:=by decide
 have hg:Xq m0 P0 l0=g0:=by
  unfold Xq;rw[if_neg (show ¬P0.part=0 by decide+kernel)];have e:QT m0 P0 l0 l0.length=[⟨[120],[97,47,49],[100,101,102],1,9,[],Qa 3,Qa 7,[],[]⟩,⟨[120],[98,47,49],[100,101,102],3,9,[],Qa 1,Qa 5,[],[]⟩]:=rfl;rw[e,t3,t7,t1,t5];rfl
 have hno:LotsOk ([]:List Lot):=⟨by decide,fun _ h=>(by cases h),by decide⟩
 have hr:∀z∈r0,z.Ok:=by
  intro z hz;unfold r0 at hz;simp only[List.mem_cons,List.mem_nil_iff,or_false] at hz
  rcases hz with rfl|rfl
  ·exact⟨by decide,by decide,by decide,by decide,by decide,by unfold QJ;rw[show val [53]=5 by decide,t5];decide,by unfold QJ;rw[show val [57,51]=93 by decide,t93];decide,by decide,by decide,.inr rfl⟩
  ·exact⟨by decide,by decide,by decide,by decide,by decide,by unfold QJ;rw[show val [50]=2 by decide,t2];decide,by unfold QJ;rw[show val [55,53]=75 by decide,t75];decide,by decide,by decide,.inr rfl⟩
 rw[hk,hg];have h:=Za3 [100,101,102] r0 [] [] ⟨fun _ h=>(by cases h),.inl rfl⟩ hno (fun z hz=>⟨hr z hz,by unfold r0 at hz;simp only[List.mem_cons,List.mem_nil_iff,or_false] at hz;rcases hz with rfl|rfl<;>rfl,by simp⟩) (by decide);simp only[List.nil_append,List.append_nil] at h;rw[if_pos (.inr (by decide))] at h;rw[h]
end
end Go.Proofs.YtpnncoinlopndaaGreatDoor
