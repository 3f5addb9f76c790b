/- Lp3, Lt0, Fk0, Lp4, Lp5, Lp6, Lp7, Lp8, Lp9, Lz, Lc, Qp, Wf. -/
import Derived.Test.YtmamnnaiogidaaaGreatDoorQGU8
import Derived.Lib.AtoiAllCases
import Derived.Lib.IndexLaws
namespace Go.Proofs.YtmamnnaiogidaaaGreatDoor
section
open Go.RowKit Go.Shelf
theorem Xt{l:List Int}{i:Nat}{a:Int}(h:l[i]?=some a):l.getD i 0=a:=by rw[List.getD_eq_getElem?_getD,h];rfl
theorem ZbQ(n:List Int)(i:Nat)(hi:i<n.length):Xc n (i+1)=Xc n i+if n.getD i 0=0 then 0 else 1:=by
 unfold Xc;rw[List.take_succ_eq_append_getElem hi,List.countP_append,Xt (List.getElem?_eq_getElem hi)]
 by_cases h:n[i]=0<;>simp[h]
theorem Ze2(n:List Int)(i:Nat):Xc n i<=i:=by
 unfold Xc;exact Nat.le_trans List.countP_le_length (by rw[List.length_take];omega)
theorem Zj7(n:List Int):Xc n n.length=n.countP (fun a=>decide (a≠0)):=by unfold Xc;rw[List.take_length]
theorem ZiG{c:List UInt8}{j k:Nat}(h:Xi c j=Xi c k):j=k:=by
 unfold Xi at h;have h1:=List.append_cancel_left h;injection h1 with _ h2;have:=congrArg Qq h2
 rwa [Jh,Jh] at this
theorem ZfU(m:Mp)(x:Plan)(old:List Lot)(hn:x.n.length=old.length)(i:Nat)(hi:i<=old.length):
 (QM m x old i).map (fun z=>z.2.id)=(List.range (Xc x.n i)).map (fun k=>Xi m.cause (k+1)):=by
 induction i with
 |zero=>simp[QM,Xc]
 |succ i ih=>
  have hlt:i<old.length:=by omega
  rw[XR,List.map_append,ih (by omega),ZbQ _ _ (by omega),List.getElem?_eq_getElem hlt]
  by_cases h:x.n.getD i 0=0
  ·simp only[if_pos h];simp
  ·simp only[if_neg h];rw[List.range_succ,List.map_append];rfl
theorem ZiH(m:Mp)(x:Plan)(old:List Lot)(hn:x.n.length=old.length):(XZ m x old).map (·.id)=(List.range (Xc x.n old.length)).map (fun k=>Xi m.cause (k+1)):=by
 unfold XZ QE;rw[List.map_map];exact ZfU m x old hn _ (Nat.le_refl _)
theorem Zcq(m:Mp)(x:Plan)(old:List Lot)(hn:x.n.length=old.length):((XZ m x old).map (·.id)).Nodup:=by
 rw[ZiH m x old hn];unfold List.Nodup;rw[List.pairwise_map];exact List.Pairwise.imp (fun h e=>h (by have:=ZiG e;omega)) List.nodup_range
theorem ZaJ{m:Mp}{x:Plan}{old:List Lot}{z:Lot}(h:z∈XZ m x old):∃i y,old[i]?=some y/\x.n.getD i 0≠0/\z=Zg1 m x old.length i y:=by
 unfold XZ QE QM at h;obtain⟨p,hp,rfl⟩:=List.mem_map.1 h
 obtain⟨i,_,hi⟩:=List.mem_filterMap.1 hp
 cases ho:old[i]? with
 |none=>rw[ho] at hi;cases hi
 |some y=>
  rw[ho] at hi
  by_cases h0:x.n.getD i 0=0
  ·simp only[if_pos h0] at hi;cases hi
  ·simp only[if_neg h0,Option.some.injEq] at hi;subst hi;exact⟨i,y,ho,h0,rfl⟩
theorem Zdb{c:List UInt8}(h:Qk c=true)(l:List UInt8):(c++47::l).takeWhile (·!=47)=c/\((c++47::l).dropWhile (·!=47)).drop 1=l:=by
 have hc:∀b∈c,(b !=47)=true:=by
  unfold Qk at h;simp only[Bool.and_eq_true] at h;intro b hb;have:=List.all_eq_true.1 h.2 b hb
  cases e:b==47 with
  |false=>simp only[bne,e];rfl
  |true=>
   have:=eq_of_beq e
   subst this;exact absurd this (by decide)
 rw[List.takeWhile_append_of_pos hc,List.dropWhile_append_of_pos hc];simp
theorem ZiI{c:List UInt8}(h:Qk c=true){k:Nat}(h1:1<=k)(h2:k<=9999):idB (Xi c k)=true:=by
 obtain⟨e1,e2⟩:=Zdb h (QS k)
 unfold idB Xi;rw[e1,e2,h]
 have hn:Zd2 (QS k)=true:=by
  unfold Zd2;obtain⟨b,l,e,hb,_⟩:=Je k (by omega)
  have h3:=VJ (m:=k) (L:=4) (by omega);have h4:=Zc1 k (by omega);rw[JZ,decide_eq_true h3,decide_eq_true h4,e]
  have h5:(some b:Option UInt8)≠some 48:=fun e2=>by
   injection e2 with e2;subst e2;exact absurd hb (by decide)
  rw[List.head?_cons,decide_eq_true h5];rfl
 rw[hn];simp
theorem Zdc{α:Type}{l:List α}{g:α->Int}(h:∀a∈l,0<=g a):0<=(l.map g).sum:=by
 refine QH fun z hz=> ?_
 obtain⟨a,ha,rfl⟩:=List.mem_map.1 hz
 exact h a ha
structure PlanAt (x:Plan) (i:Nat) (y:Lot):Prop where
 n:0<=x.n.getD i 0
 m0:0<=x.m.getD i 0
 m1:x.m.getD i 0<=val y.c
 f0:0<=x.f.getD i 0
 f1:x.f.getD i 0<=x.m.getD i 0
 p:0<=x.p.getD i 0
theorem QB(old:List Lot)(m:Mp):(Qe old m).n.length=old.length/\(Qe old m).m.length=old.length/\(Qe old m).f.length=old.length/\(Qe old m).p.length=old.length:=by
 unfold Qe;simp[Zco]
theorem Xu{old:List Lot}{m:Mp}(h:∀y∈old,y.Ok)(hm:m.Ok)(ho:old≠[]):
 (Qe old m).n.sum=(Qe old m).parts/\(Qe old m).m.sum=(Qe old m).moved/\(Qe old m).f.sum=(Qe old m).taken/\(Qe old m).p.sum=(Qe old m).cash/\0<(old.map fun y=>val y.q).sum:=by
 obtain⟨hq,hc⟩:=Yg h
 have hok:=YR h hm
 have hqs:0<(old.map fun y=>val y.q).sum:=by
  cases old with
  |nil=>exact absurd rfl ho
  |cons a l=>
   have h1:=(h a (by simp)).q0;have h2:=ZeZ hq (x:=val a.q) (by simp);omega
 have hm1:=hok.moved1;have hm0:=hok.moved0;have hms:(Qe old m).m.sum=(Qe old m).moved:=Zbp hc (by show 0<_\/(Qe old m).moved=0;omega);refine⟨Zbp hq (.inl hqs),hms,?_,Zbp hq (.inl hqs),hqs⟩;have hmn:∀z∈(Qe old m).m,0<=z:=Xq hok.moved0 hc;have ht0:=hok.taken0;have ht1:=hok.taken1;exact Zbp hmn (by show 0<(Qe old m).m.sum\/(Qe old m).taken=0;rw[hms];omega)
theorem Zdd{old:List Lot}{m:Mp}(h:∀y∈old,y.Ok)(hm:m.Ok)(ho:old≠[]){i:Nat}{y:Lot}(hi:old[i]?=some y):PlanAt (Qe old m) i y:=by
 obtain⟨hq,hc⟩:=Yg h
 have hok:=YR h hm;obtain⟨l1,l2,l3,l4⟩:=QB old m
 obtain⟨s1,s2,s3,s4,_⟩:=Xu h hm ho
 have hlt:=(List.getElem?_eq_some_iff.1 hi).1;have hn:(Qe old m).n[i]?=some ((Qe old m).n[i]'(by omega)):=List.getElem?_eq_getElem _;have hmm:(Qe old m).m[i]?=some ((Qe old m).m[i]'(by omega)):=List.getElem?_eq_getElem _;have hf:(Qe old m).f[i]?=some ((Qe old m).f[i]'(by omega)):=List.getElem?_eq_getElem _;have hp:(Qe old m).p[i]?=some ((Qe old m).p[i]'(by omega)):=List.getElem?_eq_getElem _;have hqi:(old.map fun y=>val y.q)[i]?=some (val y.q):=by rw[List.getElem?_map,hi];rfl
 have hci:(old.map fun y=>val y.c)[i]?=some (val y.c):=by rw[List.getElem?_map,hi];rfl
 have hmn:∀z∈(Qe old m).m,0<=z:=Xq hok.moved0 hc;have a1:=YQ hok.parts0 hq hn hqi;have a2:=YQ hok.moved0 hc hmm hci;have a3:=YQ hok.taken0 hmn hf hmm;have a4:=YQ hok.cash0 hq hp hqi;refine⟨?_,?_,?_,?_,?_,?_⟩
 ·rw[Xt hn];exact a1.1
 ·rw[Xt hmm];exact a2.1
 ·rw[Xt hmm];exact a2.2 hok.moved1
 ·rw[Xt hf];exact a3.1
 ·rw[Xt hf,Xt hmm];exact a3.2 (by rw[s2];exact hok.taken1)
 ·rw[Xt hp];exact a4.1
theorem ZfV{old:List Lot}{m:Mp}(h:∀y∈old,y.Ok)(hm:m.Ok)(ho:old≠[]){k:Nat}(hk:k<=old.length):0<=(Qe old m).rest k:=by
 unfold Plan.rest;refine Zdc fun j hj=> ?_
 have hj:=List.mem_range.1 (List.mem_filter.1 hj).1;have hy:old[j]?=some (old[j]'(by omega)):=List.getElem?_eq_getElem _;have:=(Zdd h hm ho hy)
 unfold Plan.mv;have:=this.f1
 omega
theorem Zh3{old:List Lot}{m:Mp}(h:∀y∈old,y.Ok)(hm:m.Ok)(ho:old≠[])(hl:old.length<=1000){i:Nat}{y:Lot}(hi:old[i]?=some y)(hn:(Qe old m).n.getD i 0≠0):(Zg1 m (Qe old m) old.length i y).Ok:=by
 have hy:=h y (List.mem_of_getElem? hi);have ha:=Zdd h hm ho hi;have hr:=ZfV h hm ho (Nat.le_refl old.length);have hlt:=(List.getElem?_eq_some_iff.1 hi).1;have hc:=Ze2 (Qe old m).n i;have h1:=ha.n;have h2:=ha.f1;refine⟨ZiI hm.cause (by omega) (by omega),hm.other,hy.acq,hy.opn,hy.ord,ZaI _,ZaI _,?_,?_,.inr rfl⟩
 ·show 0<val (Qa _)
  rw[Qc];omega
 ·show 0<=val (Qa _)
  rw[Qc];unfold Plan.mv
  split<;>omega
theorem ZbR(m:Mp)(ms:List Int)(k:Nat)(l:List Lot):((Qn m ms k l).map (·.id)).Sublist (l.map (·.id)):=by
 induction l generalizing k with
 |nil=>simp[Qn]
 |cons a l ih=>
  unfold Qn
  split
  ·split
   ·simp only[List.map_cons];exact(ih (k+1)).cons_cons _
   ·exact(ih (k+1)).cons _
  ·exact(ih k).cons_cons _
theorem Zj8(m:Mp)(ms:List Int)(k:Nat)(l:List Lot)(h:∀y∈l,y.Ok)(hm:∀j y,(Qb l m.inst)[j]?=some y->ms.getD (k+j) 0<=val y.c):∀z∈Qn m ms k l,z.Ok:=by
 induction l generalizing k with
 |nil=>intro z hz;simp[Qn] at hz
 |cons a l ih=>
  have hl:∀y∈l,y.Ok:=fun y hy=>h y (by simp[hy])
  unfold Qn
  by_cases ha:a.inst=m.inst
  ·have e:Qb (a::l) m.inst=a::Qb l m.inst:=by unfold Qb;rw[List.filter_cons,ha];simp
   have hm':∀j y,(Qb l m.inst)[j]?=some y->ms.getD (k+1+j) 0<=val y.c:=by
    intro j y hj;have:=hm (j+1) y (by rw[e];simpa using hj)
    rwa [show k+(j+1)=k+1+j by omega] at this
   rw[if_pos ha]
   split
   ·intro z hz
    rcases List.mem_cons.1 hz with rfl|hz
    ·have hok:=h a (by simp);have h0:=hm 0 a (by rw[e];rfl);refine⟨hok.id,hok.inst,hok.acq,hok.opn,hok.ord,hok.q,ZaI _,hok.q0,?_,hok.u⟩
     show 0<=val (Qa _)
     rw[Qc];simp only[Nat.add_zero] at h0;omega
    ·exact ih (k+1) hl hm' z hz
   ·exact ih (k+1) hl hm'
  ·have e:Qb (a::l) m.inst=Qb l m.inst:=by unfold Qb;rw[List.filter_cons];simp[ha]
   rw[if_neg ha];rw[e] at hm;intro z hz
   rcases List.mem_cons.1 hz with rfl|hz
   ·exact h _ (by simp)
   ·exact ih k hl hm z hz
theorem Qz{ls:List Lot}(h:LotsOk ls)(i:List UInt8):∀y∈Qb ls i,y.Ok:=fun y hy=>h.ok y (List.mem_filter.1 hy).1
theorem XI(ls:List Lot)(i:List UInt8):(Qb ls i).length<=ls.length:=List.length_filter_le _ _
theorem Zcr{ls:List Lot}{m:Mp}(h:LotsOk ls)(hm:m.Ok)(ho:Qb ls m.inst≠[]):LotsOk (Qn m (Qe (Qb ls m.inst) m).m 0 ls):=by
 have hs:=ZbR m (Qe (Qb ls m.inst) m).m 0 ls;refine⟨?_,?_,hs.nodup h.ids⟩
 ·have:=hs.length_le
  simp only[List.length_map] at this;have:=h.len
  omega
 ·refine Zj8 m _ 0 ls h.ok fun j y hj=> ?_
  have:=(Zdd (Qz h _) hm ho hj).m1
  simpa using this
structure MapOk (ls:List Lot) (m:Mp) (A B:List Lot):Prop where
 ok:LotsOk ls
 mp:m.Ok
 old:Qb ls m.inst≠[]
 free:∀z∈XZ m (Qe (Qb ls m.inst) m) (Qb ls m.inst),z.id ∉ ls.map (·.id)
 cut:Qn m (Qe (Qb ls m.inst) m).m 0 ls=A++B
 at_:CutAt m.other A B
 len:(A++XZ m (Qe (Qb ls m.inst) m) (Qb ls m.inst)++B).length<=1000
theorem XE(ls:List Lot)(m:Mp):
 (∃e,e≠0/\QQ ls m=(Res.none,e))\/
 (LotsOk ls/\m.Ok/\Qb ls m.inst=[]/\QQ ls m=(⟨ls,[],[]⟩,0))\/
 (∃A B,MapOk ls m A B/\QQ ls m=(⟨A++XZ m (Qe (Qb ls m.inst) m) (Qb ls m.inst)++B,Xz m (Qe (Qb ls m.inst) m) (Qb ls m.inst),Zba m (Qe (Qb ls m.inst) m) (Qb ls m.inst)⟩,0)):=by
 unfold QQ
 by_cases h1:Xm ls≠0\/mpC m≠0
 ·rw[if_pos h1];exact .inl ⟨1,by omega,rfl⟩
 ·rw[if_neg h1];have hl:LotsOk ls:=(Yd ls).1 (Classical.not_not.1 (fun h=>h1 (.inl h)));have hm:m.Ok:=(VU m).1 (Classical.not_not.1 (fun h=>h1 (.inr h)));simp only
  by_cases h2:Qb ls m.inst=[]
  ·rw[if_pos h2];exact .inr (.inl ⟨hl,hm,h2,rfl⟩)
  ·rw[if_neg h2]
   by_cases h3:((XZ m (Qe (Qb ls m.inst) m) (Qb ls m.inst)).any fun z=>decide (z.id∈ls.map (·.id)))=true
   ·rw[if_pos h3];exact .inl ⟨5,by omega,rfl⟩
   ·rw[if_neg h3]
    have hfree:∀z∈XZ m (Qe (Qb ls m.inst) m) (Qb ls m.inst),z.id ∉ ls.map (·.id):=by
     intro z hz hin
     apply h3
     rw[List.any_eq_true];exact⟨z,hz,by simpa using hin⟩
    obtain⟨A,B,e,hc⟩:=Zj5 (Qn m (Qe (Qb ls m.inst) m).m 0 ls) m.other
    have hk:=Zcr hl hm h2;have hsub:=ZbR m (Qe (Qb ls m.inst) m).m 0 ls;rw[e] at hk hsub
    have heq:=Zg4 m.other (XZ m (Qe (Qb ls m.inst) m) (Qb ls m.inst)) A B hc hk (by
     intro z hz;obtain⟨i,y,hy,hn,rfl⟩:=ZaJ hz
     refine⟨Zh3 (Qz hl _) hm h2 (Nat.le_trans (XI _ _) hl.len) hy hn,rfl,fun hin=>hfree _ hz (hsub.subset hin)⟩)
     (Zcq m _ _ (QB _ m).1)
    rw[e,heq]
    by_cases h4:XZ m (Qe (Qb ls m.inst) m) (Qb ls m.inst)=[]\/(A++B).length+(XZ m (Qe (Qb ls m.inst) m) (Qb ls m.inst)).length<=1000
    ·rw[if_pos h4];refine .inr (.inr ⟨A,B,⟨hl,hm,h2,hfree,e,hc,?_⟩,rfl⟩);have hAB:(A++B).length<=1000:=hk.len;simp only[List.length_append] at h4 hAB ⊢
     rcases h4 with h4|h4
     ·rw[h4];simp;omega
     ·omega
    ·rw[if_neg h4];exact .inl ⟨4,by omega,rfl⟩
end
section
open Go.RowKit Go.Shelf
theorem ZiJ(l:List UInt8)(h:l.all QU=true):∀acc:Nat,acc*10^l.length+Qq l<1000000000000000000->Lib.parseUint10 acc l=.ok (acc*10^l.length+Qq l):=by
 induction l with
 |nil=>intro acc _;simp[Lib.parseUint10,Qq]
 |cons b l ih=>
  intro acc hb;simp only[List.all_cons,Bool.and_eq_true] at h;have h1:=(Yi b).1 h.1
  have e:Qq (b::l)=(b.toNat-48)*10^l.length+Qq l:=by
   have:=Zaa [b] l
   simpa[Qq] using this
  rw[e,List.length_cons,Nat.pow_succ] at hb ⊢;have hp:1<=10^l.length:=Nat.pow_pos (by omega)
  have e2:acc*(10^l.length*10)+((b.toNat-48)*10^l.length+Qq l)=(acc*10+(b.toNat-48))*10^l.length+Qq l:=by
   rw[Nat.add_mul,Nat.mul_assoc,Nat.mul_comm 10,Nat.add_assoc]
  rw[e2] at hb ⊢;have h3:acc*10+(b.toNat-48)<=(acc*10+(b.toNat-48))*10^l.length:=Nat.le_mul_of_pos_right _ hp;unfold Lib.parseUint10;rw[if_pos (by omega),if_neg (by omega),if_neg (by omega)];exact ih h.2 _ hb
theorem Zj9{l:List UInt8}(h:l.all QU=true)(hn:l≠[])(h4:l.length<=17):Lib.atoiAll l=.ok (Qq l:Int):=by
 cases l with
 |nil=>exact absurd rfl hn
 |cons b t=>
  have hb:=h;simp only[List.all_cons,Bool.and_eq_true] at hb;have h1:=(Yi b).1 hb.1;rw[Lib.atoiAll_plain b t (by omega) (by omega)];unfold Lib.parseMag;rw[if_neg (by simp)];have hv:=Zbm h;have hp:10^(b::t).length<=10^17:=Nat.pow_le_pow_right (by omega) h4;rw[ZiJ _ h 0 (by omega)];simp only[Nat.zero_mul,Nat.zero_add];unfold Lib.signless;simp only;rw[if_neg (by omega)]
theorem ZiK{k:Nat}(h1:1<=k)(h2:k<=9999):Zd2 (QS k)=true:=by
 unfold Zd2;obtain⟨b,l,e,hb,_⟩:=Je k (by omega)
 have h3:=VJ (m:=k) (L:=4) (by omega);have h4:=Zc1 k (by omega)
 have h5:(some b:Option UInt8)≠some 48:=fun e2=>by
  injection e2 with e2;subst e2;exact absurd hb (by decide)
 rw[JZ,decide_eq_true h3,decide_eq_true h4,e,List.head?_cons,decide_eq_true h5];rfl
theorem Zek(l:List UInt8):Zd2 l=match Lib.atoiAll l with| .ok v=>decide (1<=v)&&(decide (v<=9999)&&(Lib.itoa v==l))|_=>false:=by
 by_cases h:Zd2 l=true
 ·have h':=h;unfold Zd2 at h';simp only[Bool.and_eq_true,decide_eq_true_eq] at h';obtain⟨⟨⟨a1,a2⟩,a3⟩,a4⟩:=h'
  have hne:l≠[]:=fun e=>by rw[e] at a1;simp at a1
  rw[h,Zj9 a4 hne (by omega)]
  have hd:QS (Qq l)=l:=ZaG a4 (fun b t e=>by
   rw[e] at a3;simp only[List.head?_cons,ne_eq,Option.some.injEq] at a3;simpa using a3)
  have hv:Qq l<10^4:=Nat.lt_of_lt_of_le (Zbm a4) (Nat.pow_le_pow_right (by omega) a2);have h0:Qq l≠0:=fun e=>by rw[e] at hd;exact hne hd.symm
  have hi:Lib.itoa (Qq l:Int)=l:=by
   unfold Lib.itoa;rw[if_neg (by omega)]
   conv=>rhs;rw[<-hd]
   unfold QS;rw[if_neg h0];simp
  simp only[hi,beq_self_eq_true,Bool.and_true];rw[decide_eq_true (show(1:Int)<=(Qq l:Int) by omega),decide_eq_true (show(Qq l:Int)<=9999 by omega)];rfl
 ·have hf:Zd2 l=false:=by simpa using h
  rw[hf]
  rcases ha:Lib.atoiAll l with v|_|_
  ·simp only
   cases h1:decide (1<=v) with
   |false=>rfl
   |true=>
    cases h2:decide (v<=9999) with
    |false=>rfl
    |true=>
     cases h3:Lib.itoa v==l with
     |false=>rfl
     |true=>
      exfalso
      apply h
      have h3:=eq_of_beq h3;simp only[decide_eq_true_eq] at h1 h2;rw[<-h3];unfold Lib.itoa;rw[if_neg (by omega)];have:=ZiK (k:=v.toNat) (by omega) (by omega)
      unfold QS at this;rw[if_neg (by omega)] at this;simpa using this
  ·rfl
  ·rfl
def Vg(s:List UInt8):List UInt8:=s.takeWhile (·!=47)
def JQ(s:List UInt8):List UInt8:=(s.dropWhile (·!=47)).drop 1
theorem Zel(s:List UInt8):(47∈s->Lib.indexByte s 47=((Vg s).length:Nat)/\(Vg s).length<s.length/\s.take (Vg s).length=Vg s/\s.drop ((Vg s).length+1)=JQ s)/\(47 ∉ s->Lib.indexByte s 47= -1/\Vg s=s/\JQ s=[]):=by
 induction s with
 |nil=>exact⟨fun h=>by simp at h,fun _=>⟨rfl,rfl,rfl⟩⟩
 |cons b l ih=>
  by_cases hb:b=47
  ·subst hb;refine⟨fun _=> ?_,fun h=>absurd (List.mem_cons_self) h⟩;refine⟨rfl,by simp[Vg],by simp[Vg],?_⟩;simp[Vg,JQ]
  ·have e1:Vg (b::l)=b::Vg l:=by unfold Vg;rw[List.takeWhile_cons];simp[hb]
   have e2:JQ (b::l)=JQ l:=by unfold JQ;rw[List.dropWhile_cons];simp[hb]
   have hbb:(b==47)=false:=by simpa using hb
   constructor
   ·intro h
    have hl:47∈l:=by
     rcases List.mem_cons.1 h with e|h
     ·exact absurd e.symm hb
     ·exact h
    obtain⟨a1,a2,a3,a4⟩:=ih.1 hl
    refine⟨?_,?_,?_,?_⟩
    ·rw[Lib.indexByte,hbb,a1,e1];simp only[Bool.false_eq_true,if_false];rw[if_neg (by simp)];simp
    ·rw[e1];simp;omega
    ·rw[e1];simp[a3]
    ·rw[e1,e2];simpa using a4
   ·intro h;have hl:47 ∉ l:=fun hm=>h (List.mem_cons_of_mem b hm)
    obtain⟨a1,a2,a3⟩:=ih.2 hl
    refine⟨?_,by rw[e1,a2],by rw[e2,a3]⟩;rw[Lib.indexByte,hbb,a1];rfl
theorem Zka(s:List UInt8):idB s=(Zd2 (JQ s)&&Qk (Vg s)):=by
 unfold idB
 by_cases h:47∈s
 ·rw[decide_eq_true h,Bool.true_and,Bool.and_comm];rfl
 ·rw[decide_eq_false h];have e:JQ s=[]:=((Zel s).2 h).2.2;rw[e];rfl
end
section
structure Pk where
 lot:List UInt8
 q:List UInt8
deriving DecidableEq
structure Opn where
 other:List UInt8
 ratio:Fr
 price:Fr
 value:Fr
deriving DecidableEq
structure Fct where
 key:List UInt8
 stamp:Int
 cancelled:Bool
 day:Int
 kind:Int
 inst:List UInt8
 other:List UInt8
 cur:List UInt8
 target:List UInt8
 q:List UInt8
 amount:List UInt8
 fee:List UInt8
 price:Fr
 ratio:Fr
 share:Fr
 picks:List Pk
 options:List Opn
 choice:Int
deriving DecidableEq
structure KRow where
 cls:Int
 nums:List (Nat×Bool×Bool)
 more:List Nat
 code:Bool
def Vw(k:Int):Option KRow:=
 match k with
 |1|2|6|17|18=>some ⟨2,[(5,true,false)],[2],false⟩
 |3=>some ⟨3,[(4,true,false),(5,false,false),(6,false,false)],[0],false⟩
 |4=>some ⟨3,[(4,true,false),(5,false,false),(6,false,false)],[0,10],false⟩
 |5=>some ⟨1,[(7,true,false)],[0],false⟩
 |7=>some ⟨2,[(4,true,false),(5,true,false)],[1,2],true⟩
 |8=>some ⟨1,[(7,false,false),(8,true,false)],[0],false⟩
 |9=>some ⟨1,[(7,false,false),(8,true,false),(9,false,true)],[0,1],false⟩
 |10=>some ⟨1,[],[0,11],false⟩
 |11=>some ⟨4,[],[0,3,12],false⟩
 |12=>some ⟨3,[(4,true,false),(7,false,false),(8,true,false)],[0,1],false⟩
 |13=>some ⟨1,[(7,true,false)],[0],false⟩
 |14=>some ⟨1,[(7,false,false)],[0],false⟩
 |15=>some ⟨4,[(7,false,false)],[0],false⟩
 |16=>some ⟨4,[(8,true,false)],[1,2],true⟩
 |_=>none
def KRow.has(r:KRow)(i:Nat):Bool:=r.nums.any (fun x=>x.1==i)||r.more.contains i
def Zbr(s:List UInt8):Bool:=s.length==3&&s.all fun b=>decide (65<=b.toNat)&&decide (b.toNat<=90)
def Ze3(a:List UInt8):Nat:=if a.head?=some 45 then a.length-1 else a.length
def Fct.num(f:Fct)(i:Nat):Fr:=
 match i with
 |4=>⟨f.q,[]⟩
 |5=>⟨f.amount,[]⟩
 |6=>⟨f.fee,[]⟩
 |7=>f.price
 |8=>f.ratio
 |9=>f.share
 |_=>⟨[],[]⟩
def Fct.none(f:Fct)(i:Nat):Bool:=
 match i with
 |0=>f.inst==[]
 |1=>f.other==[]
 |2=>f.cur==[]
 |3=>f.target==[]
 |10=>f.picks.isEmpty
 |11=>f.options.isEmpty
 |12=>f.choice==0
 |i=>decide (f.num i=⟨[],[]⟩)
def XJ(pos part:Bool)(f:Fr):Int:=
 if ¬f.ok then 1 else if 40<Ze3 f.n\/40<Ze3 f.d then 4 else if f.rat<0\/(pos=true/\f.rat=0)\/(part=true/\1<f.rat) then 2 else 0
def VL:List Pk->List Pk->Int->Int×Int
 |[],_,sum=>(0,sum)
 |p::ps,pre,sum=>
  if idB p.lot=false then(23,sum) else if pre.any (fun x=>x.lot==p.lot) then(5,sum)
  else if XJ true false ⟨p.q,[]⟩≠0 then(XJ true false ⟨p.q,[]⟩,sum) else VL ps (pre++[p]) (sum+val p.q)
def ZbS(f:Fct):Int:=
 if 64<f.picks.length then 4 else if(VL f.picks [] 0).1≠0 then(VL f.picks [] 0).1 else if val f.q<(VL f.picks [] 0).2 then 15 else 0
def ZbT(inst:List UInt8):List Opn->Int
 |[]=>0
 |o::os=>
  if o.other≠[]/\Qk o.other=false then 23 else if o.other=inst then 18
  else if XJ false false o.ratio≠0 then XJ false false o.ratio else if XJ false false o.price≠0 then XJ false false o.price else if XJ false false o.value≠0 then XJ false false o.value
  else if decide (o.other≠[])≠decide (o.ratio≠⟨[],[]⟩)\/(o.other=[]/\o.value≠⟨[],[]⟩) then 2 else ZbT inst os
def Zem(f:Fct):Int:=if f.options.length=0 then 11 else if 8<f.options.length then 4 else ZbT f.inst f.options
def VV(f:Fct)(r:KRow)(i:Nat):Int:=
 match i with
 |0=>if Qk f.inst=false then 23 else 0
 |1=>if r.code=true then(if Zbr f.other=false then 12 else if f.other=f.cur then 18 else 0) else if Qk f.other=false then 23 else if f.other=f.inst then 18 else 0
 |2=>if Zbr f.cur=false then 12 else 0
 |3=>if Qk f.target=false then 23 else 0
 |10=>ZbS f
 |11=>Zem f
 |12=>if f.choice<0 then 2 else 0
 |i=>match r.nums.find? (fun x=>x.1==i) with
  |some (_,pos,part)=>XJ pos part (f.num i)
  |none=>0
def Jj(f:Fct)(r:KRow)(i:Nat):Nat->Int
 |0=>0
 |n+1=>
  if r.has i=true then(if VV f r i≠0 then VV f r i else Jj f r (i+1) n)
  else if f.none i=false then 1 else Jj f r (i+1) n
def YY(f:Fct):Int:=
 if Qk f.key=false then 23 else if f.stamp<0 then 2
 else if f.cancelled=true then(if f=⟨f.key,f.stamp,true,0,0,[],[],[],[],[],[],[],⟨[],[]⟩,⟨[],[]⟩,⟨[],[]⟩,[],[],0⟩ then 0 else 1)
 else if f.day< -25567\/84005<f.day then 13
 else match Vw f.kind with
  |none=>7
  |some r=>Jj f r 0 13
end
section
open Go.RowKit Go.Shelf
theorem Vq(l:List Int):((List.range l.length).map (fun i=>l.getD i 0)).sum=l.sum:=by
 induction l with
 |nil=>rfl
 |cons a l ih=>
  rw[List.length_cons,List.range_succ_eq_map,List.map_cons,List.sum_cons,List.map_map,List.sum_cons,<-ih];rfl
theorem Ys(f:Nat->Int)(i:Nat):((List.range (i+1)).map f).sum=((List.range i).map f).sum+f i:=by
 rw[List.range_succ,List.map_append,Qv];simp
theorem Zb9(x:Plan)(i:Nat):x.rest (i+1)=x.rest i+if x.n.getD i 0=0 then x.mv i else 0:=by
 unfold Plan.rest;rw[List.range_succ,List.filter_append,List.map_append,Qv]
 by_cases h:x.n.getD i 0=0
 ·rw[if_pos h,List.filter_cons,if_pos (by simp only[h];rfl)];simp
 ·rw[if_neg h,List.filter_cons,if_neg (by simp only[decide_eq_true_eq];exact h)];simp
theorem ZeH(x:Plan)(len:Nat)(hm:x.m.length=len)(hf:x.f.length=len):((List.range len).map x.mv).sum=x.m.sum-x.f.sum:=by
 rw[<-Vq x.m,<-Vq x.f,hm,hf];generalize List.range len=l
 induction l with
 |nil=>rfl
 |cons a l ih=>
  simp only[List.map_cons,List.sum_cons,ih];unfold Plan.mv;omega
theorem ZmQ(m:Mp)(x:Plan)(old:List Lot)(i:Nat)(hi:i<=old.length):((QM m x old i).map (fun z=>val z.2.q)).sum=((List.range i).map (fun k=>x.n.getD k 0)).sum:=by
 induction i with
 |zero=>rfl
 |succ i ih=>
  rw[XR,List.map_append,Qv,ih (by omega),Ys,List.getElem?_eq_getElem (show i<old.length by omega)]
  by_cases h:x.n.getD i 0=0
  ·simp only[if_pos h];simp only[List.map_nil,List.sum_nil,h]
  ·simp only[if_neg h,List.map_cons,List.map_nil,List.sum_cons,List.sum_nil]
   show _+(val (Qa _)+0)=_
   rw[Qc];omega
theorem ZmR(m:Mp)(x:Plan)(old:List Lot)(hn:x.n.length=old.length)(i:Nat)(hi:i<=old.length):
 ((QM m x old i).map (fun z=>val z.2.c)).sum=((List.range i).map x.mv).sum-x.rest i+if Xc x.n i=0 then 0 else x.rest old.length:=by
 induction i with
 |zero=>simp[QM,Plan.rest,Xc]
 |succ i ih=>
  rw[XR,List.map_append,Qv,ih (by omega),Ys,Zb9,ZbQ _ _ (by omega),List.getElem?_eq_getElem (show i<old.length by omega)]
  by_cases h:x.n.getD i 0=0
  ·simp only[if_pos h,List.map_nil,List.sum_nil,Nat.add_zero];omega
  ·simp only[if_neg h,List.map_cons,List.map_nil,List.sum_cons,List.sum_nil]
   show _+(val (Qa _)+0)=_
   rw[Qc,if_neg (show ¬Xc x.n i+1=0 by omega)]
   split<;>omega
theorem Zht{n:List Int}(h:n.countP (fun a=>decide (a≠0))=0):n.sum=0:=by
 rw[List.countP_eq_zero] at h;have h2:∀a∈n,a=0:=fun a ha=>by have:=h a ha;simpa using this
 clear h
 induction n with
 |nil=>rfl
 |cons a l ih=>
  rw[List.sum_cons,h2 a (by simp),ih (fun b hb=>h2 b (by simp[hb]))];rfl
section
variable {ls:List Lot} {m:Mp}
theorem ZmS(h:∀y∈ls,y.Ok)(hm:m.Ok)(ho:ls≠[]):((XZ m (Qe ls m) ls).map (fun z=>val z.q)).sum=(Qe ls m).parts:=by
 unfold XZ QE;rw[List.map_map];have e:=ZmQ m (Qe ls m) ls ls.length (Nat.le_refl _);have hl:=(QB ls m).1;have e2:=Vq (Qe ls m).n;rw[hl] at e2;rw[e2,(Xu h hm ho).1] at e;exact e
theorem Zil(h:∀y∈ls,y.Ok)(hm:m.Ok)(ho:ls≠[]):((XZ m (Qe ls m) ls).map (fun z=>val z.c)).sum=(Qe ls m).moved-(Qe ls m).taken:=by
 unfold XZ QE;rw[List.map_map];obtain⟨l1,l2,l3,l4⟩:=QB ls m
 obtain⟨s1,s2,s3,s4,s5⟩:=Xu h hm ho
 have hok:=YR h hm;have e:=ZmR m (Qe ls m) ls l1 ls.length (Nat.le_refl _);rw[ZeH _ _ l2 l3,s2,s3] at e;refine Eq.trans e ?_
 split
 ·rename_i h0
  have h1:=Zj7 (Qe ls m).n;rw[l1,h0] at h1;have h2:=Zht h1.symm;rw[s1] at h2
  have hp:(Qe ls m).part≠0:=by
   intro hp;have e1:(Qe ls m).exact-((QA (Qe ls m).exact:Int):Rat)=0:=hp;have e2:QA (Qe ls m).exact=0:=h2;rw[e2] at e1
   have e3:(Qe ls m).exact=0:=by
    have:=Rat.sub_eq_add_neg (Qe ls m).exact ((0:Int):Rat)
    rw[e1] at this;have h0:(-(((0:Int):Rat)))=0:=rfl;rw[h0,Rat.add_zero] at this;exact this.symm
   have e4:=hok.ex;rw[e3] at e4;have e5:(0:Rat)<((((ls.map fun y=>val y.q).sum:Int)):Rat):=by exact_mod_cast s5
   have e6:=Rat.mul_pos e5 hm.r0;rw[<-e4] at e6;exact absurd e6 (Rat.lt_irrefl)
  have ht:=hok.none hp h2
  have hr:(Qe ls m).rest ls.length=((List.range ls.length).map (Qe ls m).mv).sum:=by
   unfold Plan.rest;rw[List.filter_eq_self.2];intro k hk;have hk:=List.mem_range.1 hk;rw[eq_comm,List.countP_eq_zero] at h1;have:=h1 _ (List.getElem_mem (show k<(Qe ls m).n.length by omega))
   rw[Xt (List.getElem?_eq_getElem (show k<(Qe ls m).n.length by omega))];simpa using this
  rw[hr,ZeH _ _ l2 l3,s2,s3];omega
 ·omega
end
end
section
open Go.RowKit Go.Shelf
def Qr(ls l:List Lot):List Lot:=l.filter (fun x=>decide (x.id ∉ ls.map (·.id)))
section
variable {ls:List Lot} {m:Mp} {A B:List Lot}
abbrev Zhu(ls:List Lot)(m:Mp):List Lot:=Qb ls m.inst
abbrev plO(ls:List Lot)(m:Mp):Plan:=Qe (Qb ls m.inst) m
abbrev mdO(ls:List Lot)(m:Mp):List Lot:=XZ m (plO ls m) (Zhu ls m)
theorem MapOk.ids(h:MapOk ls m A B):∀z∈A++B,z.id∈ls.map (·.id):=by
 intro z hz;rw[<-h.cut] at hz;exact(ZbR m _ 0 ls).subset (List.mem_map.2 ⟨z,hz,rfl⟩)
theorem MapOk.new(h:MapOk ls m A B):Qr ls (A++mdO ls m++B)=mdO ls m:=by
 unfold Qr
 have hA:A.filter (fun x=>decide (x.id ∉ ls.map (·.id)))=[]:=by
  rw[List.filter_eq_nil_iff];intro z hz;have:=h.ids z (by simp[hz])
  simpa using this
 have hB:B.filter (fun x=>decide (x.id ∉ ls.map (·.id)))=[]:=by
  rw[List.filter_eq_nil_iff];intro z hz;have:=h.ids z (by simp[hz])
  simpa using this
 rw[List.filter_append,List.filter_append,hA,hB,List.nil_append,List.append_nil,List.filter_eq_self];intro z hz;have:=h.free z hz
 simpa using this
theorem ZdE(ls:List Lot):Qr ls ls=[]:=by
 unfold Qr;rw[List.filter_eq_nil_iff];intro z hz;have:z.id∈ls.map (·.id):=List.mem_map.2 ⟨z,hz,rfl⟩
 simpa using this
theorem MapOk.ok'(h:MapOk ls m A B)(hlen:(A++mdO ls m++B).length<=1000):LotsOk (A++mdO ls m++B):=by
 have hk:=Zcr h.ok h.mp h.old;rw[h.cut] at hk
 have hp:(A++mdO ls m++B).Perm (mdO ls m++(A++B)):=by
  rw[<-List.append_assoc];exact(List.perm_append_comm).append_right B
 refine⟨hlen,?_,?_⟩
 ·intro z hz
  rcases List.mem_append.1 (hp.mem_iff.1 hz) with hz|hz
  ·obtain⟨i,y,hy,hn,rfl⟩:=ZaJ hz
   exact Zh3 (Qz h.ok _) h.mp h.old (Nat.le_trans (XI _ _) h.ok.len) hy hn
  ·exact hk.ok z hz
 ·rw[(hp.map (·.id)).nodup_iff,List.map_append,List.nodup_append];refine⟨Zcq m _ _ (QB _ m).1,hk.ids,?_⟩;intro a ha b hb e;obtain⟨z,hz,rfl⟩:=List.mem_map.1 ha
  obtain⟨y,hy,rfl⟩:=List.mem_map.1 hb
  exact h.free z hz (by rw[e];exact h.ids y hy)
theorem Zbg(m:Mp)(x:Plan)(old:List Lot)(i:Nat)(hi:i<=old.length):
 ((QZ m x old i).map (fun g=>val g.cost)).sum=((List.range i).map (fun k=>x.f.getD k 0)).sum/\((QZ m x old i).map (fun g=>val g.proceeds)).sum=((List.range i).map (fun k=>x.p.getD k 0)).sum:=by
 induction i with
 |zero=>exact⟨rfl,rfl⟩
 |succ i ih=>
  obtain⟨h1,h2⟩:=ih (by omega)
  have e:QZ m x old (i+1)=QZ m x old i++(if x.p.getD i 0=0/\x.f.getD i 0=0 then[] else[{cause:=m.cause,lot:=(old[i]'(by omega)).id,inst:=m.other,acq:=(old[i]'(by omega)).acq,closed:=m.day,q:=[],proceeds:=Qa (x.p.getD i 0),cost:=Qa (x.f.getD i 0),deferred:=[],replaced:=[]}]):=by
   unfold QZ;rw[List.range_succ,List.filterMap_append]
   congr 1
   simp only[List.filterMap_cons,List.filterMap_nil,List.getElem?_eq_getElem (show i<old.length by omega)]
   by_cases h:x.p.getD i 0=0/\x.f.getD i 0=0
   ·simp only[if_pos h]
   ·simp only[if_neg h]
  rw[e,List.map_append,List.map_append,Qv,Qv,h1,h2,Ys,Ys]
  by_cases h:x.p.getD i 0=0/\x.f.getD i 0=0
  ·rw[if_pos h,h.1,h.2];exact⟨by simp,by simp⟩
  ·rw[if_neg h];simp only[List.map_cons,List.map_nil,List.sum_cons,List.sum_nil,Qc];exact⟨by omega,by omega⟩
theorem MapOk.gains(h:MapOk ls m A B):((Xz m (plO ls m) (Zhu ls m)).map (fun g=>val g.cost)).sum=(plO ls m).taken/\((Xz m (plO ls m) (Zhu ls m)).map (fun g=>val g.proceeds)).sum=(plO ls m).cash:=by
 have hok:=YR (Qz h.ok m.inst) h.mp;obtain⟨s1,s2,s3,s4,s5⟩:=Xu (Qz h.ok m.inst) h.mp h.old
 obtain⟨l1,l2,l3,l4⟩:=QB (Qb ls m.inst) m
 unfold Xz
 by_cases hp:(plO ls m).part=0
 ·rw[if_pos hp,hok.whole hp,hok.cash1 hp];exact⟨rfl,rfl⟩
 ·rw[if_neg hp];obtain⟨e1,e2⟩:=Zbg m (plO ls m) (Zhu ls m) (Zhu ls m).length (Nat.le_refl _)
  have f1:=Vq (plO ls m).f;have f2:=Vq (plO ls m).p;rw[l3] at f1;rw[l4] at f2;rw[e1,e2,f1,f2,s3,s4];exact⟨rfl,rfl⟩
theorem Zn0(m:Mp)(ms:List Int)(k:Nat)(l:List Lot):
 ((Qn m ms k l).map (fun z=>val z.c)).sum=(l.map (fun z=>val z.c)).sum-if m.keep=true then((List.range (Qb l m.inst).length).map (fun j=>ms.getD (k+j) 0)).sum else((Qb l m.inst).map (fun z=>val z.c)).sum:=by
 induction l generalizing k with
 |nil=>simp[Qn,Qb]
 |cons a l ih=>
  unfold Qn
  by_cases ha:a.inst=m.inst
  ·have e:Qb (a::l) m.inst=a::Qb l m.inst:=by unfold Qb;rw[List.filter_cons,ha];simp
   rw[if_pos ha,e]
   by_cases hk:m.keep=true
   ·rw[if_pos hk,if_pos hk,List.map_cons,List.sum_cons,ih,if_pos hk,List.map_cons,List.sum_cons,List.length_cons,List.range_succ_eq_map,List.map_cons,List.sum_cons,List.map_map]
    show val (Qa _)+_=_
    rw[Qc]
    have e2:((List.range (Qb l m.inst).length).map (fun j=>ms.getD (k+1+j) 0))=((List.range (Qb l m.inst).length).map ((fun j=>ms.getD (k+j) 0) ∘ Nat.succ)):=by
     refine List.map_congr_left fun j _=> ?_
     show ms.getD _ 0=ms.getD _ 0
     rw[show k+1+j=k+Nat.succ j by omega]
    rw[e2];simp only[Nat.add_zero];omega
   ·rw[if_neg hk,if_neg hk,ih,if_neg hk];simp only[List.map_cons,List.sum_cons];omega
  ·have e:Qb (a::l) m.inst=Qb l m.inst:=by unfold Qb;rw[List.filter_cons];simp[ha]
   rw[if_neg ha,e];simp only[List.map_cons,List.sum_cons,ih];omega
theorem MapOk.costs(h:MapOk ls m A B):((A++mdO ls m++B).map (fun z=>val z.c)).sum+(plO ls m).taken=(ls.map (fun z=>val z.c)).sum:=by
 have hok:=YR (Qz h.ok m.inst) h.mp;obtain⟨s1,s2,s3,s4,s5⟩:=Xu (Qz h.ok m.inst) h.mp h.old
 obtain⟨l1,l2,l3,l4⟩:=QB (Qb ls m.inst) m
 have e1:((mdO ls m).map (fun z=>val z.c)).sum=(plO ls m).moved-(plO ls m).taken:=Zil (Qz h.ok m.inst) h.mp h.old;have e2:=Zn0 m (plO ls m).m 0 ls;rw[h.cut] at e2;have e3:=Vq (plO ls m).m;rw[l2] at e3
 have e4:(if m.keep=true then((List.range (Qb ls m.inst).length).map (fun j=>(plO ls m).m.getD (0+j) 0)).sum else((Qb ls m.inst).map (fun z=>val z.c)).sum)=(plO ls m).moved:=by
  split
  ·simp only[Nat.zero_add];rw[e3,s2]
  ·rename_i hk
   exact(hok.all (by simpa using hk)).symm
 rw[e4] at e2;simp only[List.map_append,Qv] at e2 ⊢;omega
end
end
section
open Go.RowKit Go.Shelf
def XM(l:List Stp)(p:Stp->Bool)(g:Stp->List UInt8):Int:=((l.filter p).map (fun s=>val (g s))).sum
theorem Za5(l k:List Stp)(p:Stp->Bool)(g:Stp->List UInt8):XM (l++k) p g=XM l p g+XM k p g:=by
 unfold XM;rw[List.filter_append,List.map_append,Qv]
theorem Zli(s:Stp)(p:Stp->Bool)(g:Stp->List UInt8)(hg:s.q=[]/\s.made=[]/\s.cost=[]->val (g s)=0):XM (Yy s) p g=if p s=true then val (g s) else 0:=by
 unfold Yy XM
 split
 ·rename_i h
  have:=hg h
  simp only[List.filter_nil,List.map_nil,List.sum_nil]
  split
  ·exact this.symm
  ·rfl
 ·by_cases hp:p s=true
  ·simp[hp]
  ·simp[hp]
theorem ZdF(m:Mp)(x:Plan)(old:List Lot)(i:Nat)(hi:i<old.length):Yk m x old (i+1)=Yk m x old i++JC m x i old[i]:=by
 unfold Yk;rw[List.range_succ,List.flatMap_append];simp[List.getElem?_eq_getElem hi]
theorem Jo{s t:Stp}(h:s∈Yy t):s=t:=by
 unfold Yy at h
 by_cases hc:t.q=[]/\t.made=[]/\t.cost=[]
 ·rw[if_pos hc] at h;cases h
 ·rw[if_neg hc] at h;exact List.mem_singleton.1 h
theorem Zgw{m:Mp}{x:Plan}{k:Nat}{y:Lot}{s:Stp}(h:s∈JC m x k y):s.src=y.id/\s.cause=m.cause:=by
 unfold JC at h;simp only at h
 split at h
 ·rw[Jo h];exact⟨rfl,rfl⟩
 ·rcases List.mem_append.1 h with h|h
  ·rw[Jo h];exact⟨rfl,rfl⟩
  ·rw[Jo h];exact⟨rfl,rfl⟩
theorem Zhv(m:Mp)(x:Plan)(old:List Lot)(hid:(old.map (·.id)).Nodup)(g:Stp->List UInt8)(k:Nat)(hk:k<old.length)(i:Nat)(hi:i<=old.length):
 XM (Yk m x old i) (fun s=>decide (s.src=old[k].id)) g=if k<i then XM (JC m x k old[k]) (fun _=>true) g else 0:=by
 induction i with
 |zero=>simp[Yk,XM]
 |succ i ih=>
  have hlt:i<old.length:=by omega
  rw[ZdF m x old i hlt,Za5,ih (by omega)]
  have hone:XM (JC m x i old[i]) (fun s=>decide (s.src=old[k].id)) g=if i=k then XM (JC m x i old[i]) (fun _=>true) g else 0:=by
   by_cases e:i=k
   ·subst e;rw[if_pos rfl];unfold XM;rw[List.filter_congr (q:=fun _=>true)];intro s hs;simp[(Zgw hs).1]
   ·rw[if_neg e];unfold XM
    have hne:old[i].id≠old[k].id:=by
     intro h
     apply e
     have h1:=List.pairwise_iff_getElem.1 hid
     rcases Nat.lt_trichotomy i k with h2|h2|h2
     ·exact absurd (by rw[List.getElem_map,List.getElem_map];exact h) (h1 i k (by simpa using hlt) (by simpa using hk) h2)
     ·exact h2
     ·exact absurd (by rw[List.getElem_map,List.getElem_map];exact h.symm) (h1 k i (by simpa using hk) (by simpa using hlt) h2)
    rw[List.filter_eq_nil_iff.2]
    ·rfl
    ·intro s hs;rw[(Zgw hs).1];simpa using hne
  rw[hone]
  by_cases e:i=k
  ·subst e;rw[if_neg (by omega),if_pos rfl,if_pos (by omega)];omega
  ·rw[if_neg e]
   by_cases h2:k<i
   ·rw[if_pos h2,if_pos (by omega)];omega
   ·rw[if_neg h2,if_neg (by omega)];rfl
theorem ZdG(s:Stp)(g:Stp->List UInt8)(hg:s.q=[]/\s.made=[]/\s.cost=[]->val (g s)=0):XM (Yy s) (fun _=>true) g=val (g s):=by
 rw[Zli s _ g hg];simp
theorem Zjj(m:Mp)(x:Plan)(k:Nat)(y:Lot):XM (JC m x k y) (fun _=>true) (·.made)=if x.parts=0 then 0 else x.n.getD k 0:=by
 unfold JC;simp only;have hz:∀s:Stp,s.q=[]/\s.made=[]/\s.cost=[]->val s.made=0:=fun s h=>by rw[h.2.1];exact XQ
 split
 ·rw[ZdG _ _ (hz _)];exact XQ
 ·rw[Za5,ZdG _ _ (hz _),ZdG _ _ (hz _)]
  show val (Qa _)+val []=_
  rw[XQ,Qc];omega
end
section
open Go.RowKit Go.Shelf
end
section
open Go.RowKit Go.Shelf
theorem Zim(k:Int):QA ((k:Int):Rat)=k:=by unfold QA;simp
section
variable {ls:List Lot} {m:Mp}
end
end
section
open Go.RowKit Go.Shelf
def XT(l:List Lot)(i:List UInt8)(g:Lot->Int):Int:=((Qb l i).map g).sum
def Mp.none:Mp:=⟨[],0,[],[],Fr.zero,Fr.zero,Fr.zero,false⟩
theorem Zhw{ls:List Lot}{m:Mp}(h:(QQ ls m).2=0):LotsOk ls/\m.Ok:=by
 rcases XE ls m with ⟨e,he,h'⟩|⟨hl,hm,_,_⟩|⟨A,B,hM,_⟩
 ·rw[h'] at h;exact absurd h he
 ·exact⟨hl,hm⟩
 ·exact⟨hM.ok,hM.mp⟩
end
section
open Go.RowKit Go.Shelf
structure PlK (K:Nat) (x:Plan):Prop where
 ex:RB K x.exact
 parts:x.parts.natAbs<10^K
 part:RB K x.part
 moved:x.moved.natAbs<10^K
 taken:x.taken.natAbs<10^K
 cash:x.cash.natAbs<10^K
 n:∀i,(x.n.getD i 0).natAbs<10^K
 m:∀i,(x.m.getD i 0).natAbs<10^K
 f:∀i,(x.f.getD i 0).natAbs<10^K
 p:∀i,(x.p.getD i 0).natAbs<10^K
 mv:∀i,(x.mv i).natAbs<10^K
 rest:∀i,(x.rest i).natAbs<10^K
theorem Jb{a K L:Nat}(h:a<10^K)(hKL:K<=L):a<10^L:=Nat.lt_of_lt_of_le h (Nat.pow_le_pow_right (by omega) hKL)
theorem ZcT{l:List Int}{K:Nat}(h0:∀x∈l,0<=x)(hs:l.sum.natAbs<10^K)(i:Nat):(l.getD i 0).natAbs<10^K:=by
 rw[List.getD_eq_getElem?_getD]
 cases h:l[i]? with
 |none=>exact Nat.pow_pos (by omega)
 |some x=>
  have hx:=List.mem_of_getElem? h;have h1:=h0 x hx;have h2:=ZeZ h0 hx
  show x.natAbs<_
  omega
theorem Vb{α:Type}{l:List α}{g:α->Int}{L:Nat}(h:∀a∈l,(g a).natAbs<10^L)(hl:l.length<=1000):((l.map g).sum).natAbs<10^(L+4):=by
 have h1:∀(k:List α),(∀a∈k,(g a).natAbs<10^L)->((k.map g).sum).natAbs<=k.length*10^L:=by
  intro k
  induction k with
  |nil=>intro _;simp
  |cons a k ih=>
   intro hk;have e1:=hk a (by simp);have e2:=ih (fun b hb=>hk b (by simp[hb]));rw[List.map_cons,List.sum_cons,List.length_cons,Nat.succ_mul];omega
 have h2:=h1 l h;have h3:l.length*10^L<=1000*10^L:=Nat.mul_le_mul_right _ hl;have h4:10^(L+4)=10000*10^L:=by rw[Nat.pow_add,Nat.mul_comm]
 have h5:0<10^L:=Nat.pow_pos (by omega);rw[h4];generalize 10^L=P at*;generalize l.length*P=Z at*;omega
theorem Zlz{q:Rat}{K:Nat}(h:RB K q)(hK:1<=K):(rnd q).natAbs<10^(K+1):=by
 have h1:=Zc7 q;have h2:=(JA q).2;have h3:=h.1;have h4:10^(K+1)=10*10^K:=by rw[Nat.pow_add,Nat.mul_comm]
 have h5:10^1<=10^K:=Nat.pow_le_pow_right (by omega) hK;rw[h4];generalize 10^K=P at*
 rcases h2 with h2|⟨h2,_⟩<;>omega
theorem Zn5{q:Rat}{K:Nat}(h:RB K q)(hK:1<=K):(QA q).natAbs<10^(K+1):=by
 have h1:=Zc7 q;have h3:=h.1;have h4:10^(K+1)=10*10^K:=by rw[Nat.pow_add,Nat.mul_comm]
 have h5:10^1<=10^K:=Nat.pow_le_pow_right (by omega) hK;rw[h4];generalize 10^K=P at*;omega
theorem Zip{q:Rat}{K:Nat}(h:RB K q):RB K (q-((QA q:Int):Rat)):=by
 rw[Zbq];obtain⟨h1,h2⟩:=Xs q
 have hd:(q.den:Int)≠0:=by have:=q.den_nz;omega
 exact RB.divInt (by have:=h.2;omega) (by have:=h.2;omega) hd
theorem ZaR{p q:Rat}{K:Nat}(hp:RB K p)(hq:RB K q):RB (K+K+2) (p*q):=by
 have h:=ZeW (Xe hp) (Xe hq) (by omega);rw[Qh,Qh] at h;exact h.more (by omega)
theorem Zfr{k:Int}{K:Nat}(h:k.natAbs<10^K)(hK:1<=K):RB K ((k:Int):Rat):=by
 refine⟨by simpa using h,?_⟩;have:10^1<=10^K:=Nat.pow_le_pow_right (by omega) hK
 simp
 omega
theorem ZaS{old:List Lot}{m:Mp}{L:Nat}(h:∀y∈old,y.Ok)(hm:m.Ok)(hl:old.length<=1000)(hL:1<=L)(hq:∀y∈old,y.q.length<=L)(hc:∀y∈old,y.c.length<=L)(hr:m.ratio.Sz L)(hpr:m.price.Sz L):PlK (4*L+40) (Qe old m):=by
 have hsq:((old.map fun y=>val y.q).sum).natAbs<10^(L+4):=Vb (fun y hy=>Qp (hq y hy)) hl;have hsc:((old.map fun y=>val y.c).sum).natAbs<10^(L+4):=Vb (fun y hy=>Qp (hc y hy)) hl;have hok:=YR h hm;obtain⟨nq,nc⟩:=Yg h
 obtain⟨l1,l2,l3,l4⟩:=QB old m
 have hex:RB (2*L+10) (Qe old m).exact:=by
  rw[hok.ex];exact(ZaR (Zfr hsq (by omega)) ((Zcl hr hL).more (show L<=L+4 by omega))).more (by omega)
 have hparts:(Qe old m).parts.natAbs<10^(2*L+11):=Zn5 hex (by omega);have hpart:RB (2*L+10) (Qe old m).part:=Zip hex;have hmoved:(Qe old m).moved.natAbs<10^(L+4):=by have h1:=hok.moved0;have h2:=hok.moved1;omega
 have htaken:(Qe old m).taken.natAbs<10^(L+4):=by have h1:=hok.taken0;have h2:=hok.taken1;have h3:=hok.moved0;omega
 have hcash:(Qe old m).cash.natAbs<10^(4*L+23):=by
  have e:(Qe old m).cash=rnd ((Qe old m).part*m.price.rat):=rfl;rw[e];exact Zlz ((ZaR hpart ((Zcl hpr hL).more (show L<=2*L+10 by omega))).more (by omega)) (by omega)
 have nm:∀x∈(Qe old m).m,0<=x:=Xq hok.moved0 nc;have nn:∀x∈(Qe old m).n,0<=x:=Xq hok.parts0 nq;have nf:∀x∈(Qe old m).f,0<=x:=Xq hok.taken0 nm;have np:∀x∈(Qe old m).p,0<=x:=Xq hok.cash0 nq
 have hsum:(Qe old m).n.sum.natAbs<10^(2*L+11)/\(Qe old m).m.sum.natAbs<10^(L+4)/\(Qe old m).f.sum.natAbs<10^(L+4)/\(Qe old m).p.sum.natAbs<10^(4*L+23):=by
  by_cases ho:old=[]
  ·subst ho;rw[List.length_nil] at l1 l2 l3 l4;rw[List.eq_nil_of_length_eq_zero l1,List.eq_nil_of_length_eq_zero l2,List.eq_nil_of_length_eq_zero l3,List.eq_nil_of_length_eq_zero l4];exact⟨Nat.pow_pos (by omega),Nat.pow_pos (by omega),Nat.pow_pos (by omega),Nat.pow_pos (by omega)⟩
  ·obtain⟨s1,s2,s3,s4,_⟩:=Xu h hm ho
   rw[s1,s2,s3,s4];exact⟨hparts,hmoved,htaken,hcash⟩
 have gm:=ZcT nm hsum.2.1;have gf:=ZcT nf hsum.2.2.1;have gmv:∀i,((Qe old m).mv i).natAbs<10^(L+5):=fun i=>Yf (gm i) (gf i)
 have hrest:∀i,((Qe old m).rest i).natAbs<=(min i old.length)*10^(L+5):=by
  intro i
  induction i with
  |zero=>show(0:Int).natAbs<=_;simp
  |succ i ih=>
   rw[Zb9];have h1:=gmv i
   have h0:i>=old.length->(Qe old m).mv i=0:=fun hi=>by
    unfold Plan.mv;rw[List.getD_eq_getElem?_getD,List.getD_eq_getElem?_getD,List.getElem?_eq_none (by omega),List.getElem?_eq_none (by omega)];rfl
   generalize (Qe old m).mv i=v at*;generalize (Qe old m).rest i=r at*
   by_cases hi:i<old.length
   ·rw[Nat.min_eq_left (by omega)] at ih ⊢;rw[Nat.succ_mul];generalize 10^(L+5)=P at*;generalize i*P=Z at*
    split<;>omega
   ·rw[Nat.min_eq_right (by omega)] at ih ⊢;rw[h0 (by omega)];simpa using ih
 refine⟨hex.more (by omega),Jb hparts (by omega),hpart.more (by omega),Jb hmoved (by omega),Jb htaken (by omega),Jb hcash (by omega),fun i=>Jb (ZcT nn hsum.1 i) (by omega),fun i=>Jb (gm i) (by omega),fun i=>Jb (gf i) (by omega),fun i=>Jb (ZcT np hsum.2.2.2 i) (by omega),fun i=>Jb (gmv i) (by omega),fun i=> ?_⟩;have h1:=hrest i;have h2:(min i old.length)*10^(L+5)<=1000*10^(L+5):=Nat.mul_le_mul_right _ (by omega);have h4:10^(L+5+4)=10000*10^(L+5):=by rw[Nat.pow_add,Nat.mul_comm]
 have h5:0<10^(L+5):=Nat.pow_pos (by omega);refine Jb (K:=L+5+4) ?_ (by omega);rw[h4];generalize 10^(L+5)=P at*;generalize (min i old.length)*P=Z at*;omega
end
section
open Go.RowKit Go.Shelf
def XD(l:List Lot):Int:=(l.map (fun z=>val z.c)).sum
def JT(l:List Lot):Int:=(l.map (fun z=>val z.q)).sum
def Vc(l:List Gain):Int:=(l.map (fun g=>val g.cost)).sum
theorem Zjw(m:Mp):(Qe [] m).m.sum=0/\(Qe [] m).f.sum=0:=by
 obtain⟨l1,l2,l3,l4⟩:=QB [] m
 rw[List.length_nil] at l2 l3;rw[List.eq_nil_of_length_eq_zero l2,List.eq_nil_of_length_eq_zero l3];exact⟨rfl,rfl⟩
theorem ZcB{ls:List Lot}{m:Mp}(h:(QQ ls m).2=0):
 Xm ls=0/\mpC m=0/\Xm (QQ ls m).1.lots=0/\XD ls=XD (QQ ls m).1.lots+Vc (QQ ls m).1.gains/\
 (Qe (Qb ls m.inst) m).m.sum-(Qe (Qb ls m.inst) m).f.sum=XD (Qr ls (QQ ls m).1.lots)/\(Qe (Qb ls m.inst) m).f.sum=Vc (QQ ls m).1.gains:=by
 rcases XE ls m with ⟨e,he,h'⟩|⟨hl,hm,ho,h'⟩|⟨A,B,hM,h'⟩
 ·rw[h'] at h;exact absurd h he
 ·rw[h',ho];obtain⟨p1,p2⟩:=Zjw m
  refine⟨(Yd ls).2 hl,(VU m).2 hm,(Yd ls).2 hl,?_,?_,?_⟩
  ·show XD ls=XD ls+0;omega
  ·rw[p1,p2,ZdE];rfl
  ·rw[p2];rfl
 ·rw[h'];obtain⟨s1,s2,s3,s4,s5⟩:=Xu (Qz hM.ok m.inst) hM.mp hM.old
  obtain⟨g1,_⟩:=hM.gains
  have hc:=hM.costs;refine⟨(Yd ls).2 hM.ok,(VU m).2 hM.mp,(Yd _).2 (hM.ok' hM.len),?_,?_,?_⟩
  ·show XD ls=XD (A++mdO ls m++B)+Vc (Xz m (plO ls m) (Zhu ls m))
   unfold XD Vc;rw[g1];exact hc.symm
  ·show _=XD (Qr ls (A++mdO ls m++B))
   rw[hM.new,s2,s3];exact(Zil (Qz hM.ok m.inst) hM.mp hM.old).symm
  ·rw[s3];exact g1.symm
theorem Zit{ls:List Lot}{m:Mp}(h:(QQ ls m).2≠0):(QQ ls m).1=Res.none:=by
 rcases XE ls m with ⟨e,he,h'⟩|⟨hl,hm,ho,h'⟩|⟨A,B,hM,h'⟩
 ·rw[h']
 ·rw[h'] at h;exact absurd rfl h
 ·rw[h'] at h;exact absurd rfl h
end
section
open Go.RowKit Go.Shelf
def Zn9(ls:List Stp)(id:List UInt8):Int:=XM ls (fun s=>decide (s.src=id)) (·.made)
theorem ZhK{ls:List Lot}(h:LotsOk ls)(i:List UInt8):((Qb ls i).map (·.id)).Nodup:=by
 unfold Qb;exact(List.filter_sublist.map _).nodup h.ids
theorem ZgD{ls:List Lot}{m:Mp}(h:(QQ ls m).2=0)(ho:Qb ls m.inst≠[]):
 LotsOk ls/\m.Ok/\JT (Qr ls (QQ ls m).1.lots)=(Qe (Qb ls m.inst) m).parts/\
 (Qb ls m.inst).map (fun y=>Zn9 (QQ ls m).1.steps y.id)=(Qe (Qb ls m.inst) m).n/\(Qe (Qb ls m.inst) m).n=Yv (Qe (Qb ls m.inst) m).parts ((Qb ls m.inst).map fun y=>val y.q):=by
 rcases XE ls m with ⟨e,he,h'⟩|⟨hl,hm,ho',h'⟩|⟨A,B,hM,h'⟩
 ·rw[h'] at h;exact absurd h he
 ·exact absurd ho' ho
 ·rw[h'];have hok:=Qz hM.ok m.inst;obtain⟨l1,l2,l3,l4⟩:=QB (Qb ls m.inst) m
  obtain⟨s1,s2,s3,s4,s5⟩:=Xu hok hM.mp ho
  refine⟨hM.ok,hM.mp,?_,?_,?_⟩
  ·show JT (Qr ls (A++mdO ls m++B))=_
   rw[hM.new];exact ZmS hok hM.mp ho
  ·refine List.ext_getElem (by simp[l1]) fun k h1 h2=> ?_
   have hk:k<(Qb ls m.inst).length:=by rw[<-l1];exact h2
   rw[List.getElem_map]
   show XM (Yk m (Qe (Qb ls m.inst) m) (Qb ls m.inst) (Qb ls m.inst).length) _ _=_
   rw[Zhv m _ _ (ZhK hM.ok m.inst) (·.made) k hk _ (Nat.le_refl _),if_pos hk,Zjj];have hg:(Qe (Qb ls m.inst) m).n.getD k 0=(Qe (Qb ls m.inst) m).n[k]:=by rw[List.getD_eq_getElem?_getD,List.getElem?_eq_getElem h2];rfl
   split
   ·rename_i h0
    rw[h0] at s1;have h3:=Ze1 (Xq (YR hok hM.mp).parts0 (Yg hok).1) s1 _ (List.getElem_mem h2);exact h3.symm
   ·exact hg
  ·show YP _ _=_
   unfold YP;rw[if_neg (by omega)];rfl
theorem ZhL(q:Rat):¬QV (q-((QA q:Int):Rat)) 0<0/\¬0<=QV (q-((QA q:Int):Rat)) 1:=by
 have h0:=Zcp q
 have h1:q-((QA q:Int):Rat)<1:=by
  rw[Zbq];obtain⟨b1,b2⟩:=Xs q
  have hd:(0:Int)<q.den:=by have:=q.den_pos;omega
  have h1r:(1:Rat)=Rat.divInt 1 1:=rfl;rw[h1r,Zeg _ _ hd (by omega)];omega
 unfold QV;rw[if_pos h1]
 constructor
 ·rw[if_neg (Rat.not_lt.2 h0)]
  split<;>decide
 ·decide
end
section
open Go.RowKit Go.Shelf
end
end Go.Proofs.YtmamnnaiogidaaaGreatDoor
