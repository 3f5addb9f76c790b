/- . -/
import Derived.Test.YtpnncoinlopndaaGreatDoorQGMp39
import Derived.Test.YtpnncoinlopndaaGreatDoorQGMp17
import Derived.Test.YtpnncoinlopndaaGreatDoorCards
import Derived.Test.YtpnncoinlopndaaGreatDoorTie
import Derived.Lib.SmallJoins
import Derived.LaidSub
import Derived.ProofKit
import Derived.OpenShut
import Derived.Carry
import Derived.LaidMore
import Derived.Deep.Slices
import Derived.Deep.DeepHandedRow
set_option maxRecDepth 100000
namespace Go.Proofs.YtpnncoinlopndaaGreatDoor
section
open Go.RowKit Go.Shelf
def Lot.I(y:Lot):Prop:=(-9223372036854775808<=y.acq/\y.acq<=9223372036854775807)/\ -9223372036854775808<=y.opn/\y.opn<=9223372036854775807
theorem ZlY{xs:List Lot}(h:Zgh xs=false)(hi:∀y∈xs,y.I):xs.length<=1002/\∀y∈xs,y.Sz 40/\y.q.length<=13/\y.c.length<=13:=by
 unfold Zgh at h;simp only[Bool.or_eq_false_iff,decide_eq_false_iff_not] at h;refine⟨by omega,fun y hy=> ?_⟩
 have h1:JR y=false:=by
  have:=h.2
  rw[List.any_eq_false] at this;simpa using this y hy
 unfold JR at h1;simp only[Bool.or_eq_false_iff,decide_eq_false_iff_not] at h1;obtain⟨⟨a1,a2⟩,b1,b2⟩:=hi y hy
 obtain⟨⟨⟨⟨c1,c2⟩,c3⟩,c4⟩,c5⟩:=h1
 exact⟨⟨by omega,by omega,by omega,by omega,by omega,a1,a2,b1,b2⟩,by omega,by omega⟩
theorem Lot.Sz.more{L K:Nat}{y:Lot}(h:y.Sz L)(hK:L<=K):y.Sz K:=⟨Nat.le_trans h.id hK,Nat.le_trans h.inst hK,Nat.le_trans h.q hK,Nat.le_trans h.c hK,Nat.le_trans h.u hK,h.a1,h.a2,h.o1,h.o2⟩
theorem ZlZ{m:Mp}{ms:List Int}{K:Nat}(hm:∀i,(ms.getD i 0).natAbs<10^K)(k:Nat)(l:List Lot)(h:∀y∈l,y.q.length<=K/\y.c.length<=K):∀z∈Qn m ms k l,z.q.length<=K+2/\z.c.length<=K+2:=by
 induction l generalizing k with
 |nil=>intro z hz;simp[Qn] at hz
 |cons a l ih=>
  intro z hz;have ha:=h a (by simp);have ht:=fun k=>ih k (fun y hy=>h y (by simp[hy]))
  unfold Qn at hz
  split at hz
  ·split at hz
   ·rcases List.mem_cons.1 hz with rfl|hz
    ·have hc:=Qd (Vz (Qz ha.2) (hm k));exact⟨by show a.q.length<=_;omega,by show(Qa _).length<=_;omega⟩
    ·exact ht _ z hz
   ·exact ht _ z hz
  ·rcases List.mem_cons.1 hz with rfl|hz
   ·omega
   ·exact ht _ z hz
theorem ZkC{ls:List Lot}{m:Mp}{L:Nat}(hL1:1<=L)(hL:L<=200)(hq:∀y∈ls,y.q.length<=L/\y.c.length<=L)(hs:∀y∈ls,y.Sz 50000)(hr:m.ratio.Sz L)(hpr:m.price.Sz L):
 (∀y∈(Yz ls m).1.lots,y.q.length<=4*L+42/\y.c.length<=4*L+42/\y.Sz 50000)/\(∀g∈(Yz ls m).1.gains,g.cost.length<=4*L+42/\g.proceeds.length<=4*L+42)/\(∀s∈(Yz ls m).1.steps,s.made.length<=4*L+42)/\
 (Yz ls m).1.lots.length<=1000/\(Yz ls m).1.gains.length<=1000/\(Yz ls m).1.steps.length<=2000:=by
 rcases Zi0 ls m with ⟨e,he,h'⟩|⟨hl,hm,ho,h'⟩|⟨A,B,hM,h'⟩
 ·rw[h'];exact⟨fun y hy=>(by cases hy),fun y hy=>(by cases hy),fun y hy=>(by cases hy),Nat.zero_le _,Nat.zero_le _,Nat.zero_le _⟩
 ·rw[h'];refine⟨fun y hy=> ?_,fun y hy=>(by cases hy),fun y hy=>(by cases hy),hl.len,Nat.zero_le _,Nat.zero_le _⟩;have:=hq y hy
  exact⟨by omega,by omega,hs y hy⟩
 ·rw[h'];have hok:=Xr hM.ok m.inst;have hlo:(Qb ls m.inst).length<=1000:=Nat.le_trans (Yp ls m.inst) hM.ok.len;have hK:=ZbC hok hM.mp hlo hL1 (fun y hy=>(hq y (List.mem_filter.1 hy).1).1) (fun y hy=>(hq y (List.mem_filter.1 hy).1).2) hr hpr;have hcz:=ZbE hM.mp.cause;have hoz:=ZbE hM.mp.other;refine⟨fun y hy=> ?_,fun g hg=> ?_,fun s hs'=> ?_,hM.len,?_,?_⟩
  ·have hy:y∈A++QZ m (Qe (Qb ls m.inst) m) (Qb ls m.inst)++B:=hy
   have hk:y∈A++B->y.q.length<=4*L+42/\y.c.length<=4*L+42/\y.Sz 50000:=by
    intro h;rw[<-hM.cut] at h;have h1:=ZlZ hK.m 0 ls (fun y hy=>⟨by have:=(hq y hy).1;omega,by have:=(hq y hy).2;omega⟩) y h;exact⟨h1.1,h1.2,Zgd hK.m (by omega) 0 ls (fun y hy=>⟨hs y hy,by have:=(hq y hy).2;omega⟩) y h⟩
   rcases List.mem_append.1 hy with hy|hy
   ·rcases List.mem_append.1 hy with hy|hy
    ·exact hk (List.mem_append.2 (.inl hy))
    ·obtain⟨i,z,hz,hn,rfl⟩:=ZaK hy
     have hlt:=(List.getElem?_eq_some_iff.1 hz).1;have hq':=Qd (hK.n i)
     have hcost:(Qa ((Qe (Qb ls m.inst) m).mv i+if QD (Qe (Qb ls m.inst) m).n i=0 then(Qe (Qb ls m.inst) m).rest (Qb ls m.inst).length else 0)).length<=4*L+40+2:=by
      refine Qd (L:=4*L+40+1) ?_;have h1:=hK.mv i;have h2:=hK.rest (Qb ls m.inst).length;rw[Nat.pow_succ];have h3:0<10^(4*L+40):=Nat.pow_pos (by omega);generalize 10^(4*L+40)=P at*
      split<;>omega
     exact⟨by show(Qa _).length<=_;omega,by show(Qa _).length<=_;omega,Zik hK hcz hoz (hok z (List.mem_of_getElem? hz)) (by omega) (by omega)⟩
   ·exact hk (List.mem_append.2 (.inr hy))
  ·have hg:g∈Xq m (Qe (Qb ls m.inst) m) (Qb ls m.inst):=hg;unfold Xq at hg
   split at hg
   ·cases hg
   ·unfold QT at hg;obtain⟨k,_,hk⟩:=List.mem_filterMap.1 hg
    have h1:=Qd (hK.f k);have h2:=Qd (hK.p k)
    cases ho:(Qb ls m.inst)[k]? with
    |none=>rw[ho] at hk;cases hk
    |some y=>
     rw[ho] at hk;simp only at hk
     split at hk
     ·cases hk
     ·injection hk with hk;rw[<-hk];exact⟨by show(Qa _).length<=_;omega,by show(Qa _).length<=_;omega⟩
  ·have hs':s∈Yh m (Qe (Qb ls m.inst) m) (Qb ls m.inst):=hs';unfold Yh QW at hs';obtain⟨k,_,hk⟩:=List.mem_flatMap.1 hs'
   have h1:=Qd (hK.n k)
   cases ho:(Qb ls m.inst)[k]? with
   |none=>rw[ho] at hk;cases hk
   |some y=>
    rw[ho] at hk;simp only at hk
    unfold Zbz at hk;simp only at hk
    split at hk
    ·rw[Zdp hk];show([]:List UInt8).length<=_;simp
    ·rcases List.mem_append.1 hk with hk|hk
     ·rw[Zdp hk];show(Qa _).length<=_;omega
     ·rw[Zdp hk];show([]:List UInt8).length<=_;simp
  ·show(Xq m (Qe (Qb ls m.inst) m) (Qb ls m.inst)).length<=1000
   unfold Xq
   split
   ·simp
   ·exact Nat.le_trans (Za7 m _ _ _) hlo
  ·show(Yh m (Qe (Qb ls m.inst) m) (Qb ls m.inst)).length<=2000
   unfold Yh QW
   have h:∀(l:List Nat),(l.flatMap fun k=>match (Qb ls m.inst)[k]? with|some y=>Zbz m (Qe (Qb ls m.inst) m) k y|none=>[]).length<=2*l.length:=by
    intro l
    induction l with
    |nil=>simp
    |cons a l ih=>
     rw[List.flatMap_cons,List.length_append,List.length_cons]
     have:(match (Qb ls m.inst)[a]? with|some y=>Zbz m (Qe (Qb ls m.inst) m) a y|none=>[]).length<=2:=by
      cases(Qb ls m.inst)[a]? with
      |none=>simp
      |some z=>exact Zdr m _ a z
     omega
   have:=h (List.range (Qb ls m.inst).length)
   rw[List.length_range] at this;exact Nat.le_trans this (by omega)
end
section
open Go.ChangeShapes Go.WideShapes Go.ChangeAt Go.RowKit Go.Deep
theorem Zl0:laidOutB Tryz.prog=true:=by kernel_rfl
theorem own:ownKnob Tryz.prog.godebug=none:=by kernel_rfl
section
variable {H:Type} {enc:TypeId×Value->H} {P:Program}
theorem Zea(hl:laidOutB P=true):∀{ts:List TypeId} {vs:List Value} {ds:List (DataW H)} {ps:List MemPlace} {W W':World} {sp:Nat->Bool},(∀t∈ts,P.readableRec t=true/\t<P.types.size)->
 DataW.TrodAll enc P W 0 (fun _=>true) true ts vs ds ps->(∀p∈ps,W.sameAt W' p)->(∀p∈ps,sp p.block=true)->DataW.TrodAll enc P W' 0 sp true ts vs ds ps:=by
 intro ts
 induction ts with
 |nil=>
  intro vs ds ps W W' sp _ h _ _;obtain⟨rfl,rfl,rfl⟩:=trodAll_nil h
  exact trodAll_mk0
 |cons t ts ih=>
  intro vs ds ps W W' sp hr h hs hp;obtain⟨v,vs',d,ds',p,q,rfl,rfl,rfl,h1,h2⟩:=trodAll_cons h
  refine trodAll_cons_mk (WideElems.Trod_stays hl (hr t (by simp)).1 (hr t (by simp)).2 h1 (fun x hx=>hs x (by simp[hx])) (fun x hx=>hp x (by simp[hx]))) (ih (fun t' ht'=>hr t' (by simp[ht'])) h2 (fun x hx=>hs x (by simp[hx])) (fun x hx=>hp x (by simp[hx])))
theorem Zhz{f:Func}{s:ChangeSpec}{apart fresh handsOn again:Bool}{W W':World}{args:Array Value}{ds gs:List (DataW H)}{before:List MemPlace}{tb:TypeId}
 (hl:laidOutB P=true) (hr:∀t∈f.params.toList,P.readableRec t=true/\t<P.types.size) (hrt:f.resultTypes=#[tb]) (hbt:P.underlying tb=some .bool) (hv:s.vars=[])
 (hfn:s.fn H (ds++gs)={results:=[.lit (.bool true)],args:=ds})
 (hW:DataW.Whole enc P f.params.toList s.vars apart W args.toList ds gs before) (hb:Below W.1.size W W'):s.post enc P f apart fresh handsOn again W args (.bool true) W':=by
 have hlt:∀p∈before,p.block<W.1.size:=hW.lt;have hold:∀p∈before,(fun b=>decide (b<W.1.size)) p.block=true:=fun p hp=>by simpa using hlt p hp
 have hW':=hW;obtain⟨p,q,hA,hV,hpq,hz,hn⟩:=hW
 rw[hv] at hV;obtain⟨rfl,rfl⟩:=trodVars_none hV
 simp only[List.append_nil] at hpq;subst hpq
 have hargs:∀sp:Nat->Bool,(∀x∈before,sp x.block=true)->DataW.TrodAll enc P W' 0 sp true f.params.toList args.toList ds before:=
  fun sp hs=>Zea hl hr hA (fun x hx=>hb.same (hlt x hx)) hs
 have hres:∀(b:Nat) (sp:Nat->Bool) (hd:Bool),DataW.TrodAll enc P W' b sp hd f.resultTypes.toList ((Value.bool true).resultList f.resultTypes.size) (s.fn H (ds++[])).results []:=by
  intro b sp hd;rw[hfn,hrt];exact trodAll_mk1 (shut_bool hbt _)
 have hvars:∀sp:Nat->Bool,DataW.TrodVars enc P W' sp s.vars (s.fn H (ds++[])).vars []:=by
  intro sp;rw[hfn,hv];rfl
 refine⟨ds,[],before,[],before,[],hW',hres _ _ _,by rw[hfn];exact hargs _ hold,hvars _,World.keptBut_mono (fun x hx=>⟨hx,Or.inr (by simpa using hx)⟩) (hb.frame (·∈before)),fun _=> ?_⟩;have hres2:=hres 0 (fun _=>true) true;have hvars2:=hvars (fun _=>true);rw[hfn] at hres2 hvars2;refine⟨ok_one hrt rfl (okWide_bool_mk hbt _),_,_,([]++before)++[],⟨[]++before,[],trodAll_append (hargs _ (fun _ _=>rfl)) hres2,hvars2,rfl,?_,?_⟩,?_⟩
 ·intro b off hp;have hp':MemPlace.cell b off∈before:=by simpa using hp
  rw[hb.frozen (p:=⟨b,off,none⟩) (hlt _ hp')];exact hz b off (by simpa using hp)
 ·intro ha;have:=hn ha
  simpa using this
 ·intro x hx _;simpa using hx
end
theorem Zcc:Tryz.prog.cellsOf 26=2:=by kernel_rfl
theorem Zl1{k:Int}(h:(Lit.int .i64 k).wf=true): -9223372036854775808<=k/\k<=9223372036854775807:=by
 simp[Lit.wf] at h
 have e1:IntKind.i64.min= -9223372036854775808:=rfl;have e2:IntKind.i64.max=9223372036854775807:=rfl;omega
theorem ZhA{α:Type}{P:Nat->α->Prop}:∀n,(∀i,i<n->∃r,P i r)->∃xs:List α,xs.length=n/\∀i r,xs[i]?=some r->P i r:=by
 intro n
 induction n with
 |zero=>intro _;exact⟨[],rfl,fun i r h=>by simp at h⟩
 |succ n ih=>
  intro h;obtain⟨xs,hl,hx⟩:=ih (fun i hi=>h i (by omega))
  obtain⟨r,hr⟩:=h n (by omega)
  refine⟨xs++[r],by simp[hl],fun i r' hi=> ?_⟩
  by_cases hlt:i<xs.length
  ·rw[List.getElem?_append_left hlt] at hi;exact hx i r' hi
  ·rw[List.getElem?_append_right (by omega)] at hi;have hlen:=(List.getElem?_eq_some_iff.1 hi).1;simp at hlen;have e:i=n:=by omega
   subst e;rw[show i-xs.length=0 by omega] at hi;simp at hi;subst hi;exact hr
theorem Zgo:Tryz.prog.cellsOf 54=7:=by kernel_rfl
theorem ZkD:Tryz.prog.cellsOf 28=11:=by kernel_rfl
theorem Zds:Tryz.prog.cellsOf 23=1:=by kernel_rfl
theorem ZbI:Tryz.prog.cellsOf 24=1:=by kernel_rfl
theorem Zar:Tryz.prog.cellsOf 9=1:=by kernel_rfl
theorem Zjc:Tryz.prog.cellsOf 4=1:=by kernel_rfl
theorem Jg(s:ByteArray):Value.string s=S s.data.toList:=by simp[S]
theorem ZbJ{s:ByteArray}(h:s.size<=maxLen):s.data.toList.length<=maxLen:=by rw[Array.length_toList];exact h
theorem Zjd{H:Type}{enc:TypeId×Value->H}{W:World}{base:Nat}{v:Value}{d:DataW H}{p:List MemPlace}(hv:Value.okWide Tryz.prog W .any base 22 v)(h:DataW.Trod enc Tryz.prog W 0 (fun _=>true) true 22 v d p):
 ∃A n c xs,v=.slice A n c/\n<=maxLen/\QU W W.1.size A n xs/\((A=none/\c=0)\/∃a,A=some a)/\∀y∈xs,Lot.I y:=by
 obtain⟨a0,len,cap,rfl⟩:=okWide_slice Tryz.underlying22 hv
 obtain⟨fuel,hf⟩:=h
 rcases open_slice Tryz.underlying22 hf with ⟨hcs,hx⟩|⟨a,len',cap',m,n,D,Pl,hcs,_,hl,hm,hmm,hx,hi⟩
 ·simp[Value.cells] at hcs
  obtain⟨rfl,rfl,rfl⟩:=hcs
  exact⟨none,0,0,[],rfl,Nat.zero_le _,Sl.nil,.inl ⟨rfl,rfl⟩,fun y hy=>(by cases hy)⟩
 ·simp[Value.cells] at hcs
  obtain⟨rfl,rfl,rfl⟩:=hcs
  simp only[if_true] at hmm;subst hmm;obtain⟨b,off,spot⟩:=a
  rw[Zgo] at hi
  have hspot:0<len->spot=none:=by
   intro h0;obtain⟨cs',hc,_⟩:=hi 0 (by omega)
   obtain⟨_,hcl,hat⟩:=World.cells?_some hc
   have hc0:=hat 0 (by omega);rw[List.getElem?_eq_getElem (by omega)] at hc0;simpa[Addr.add] using World.cell?_spot hc0
  have key:∀i,i<len->∃r:Lot,b<W.1.size/\spot=none/\r.I/\∀j u,(L7 r)[j]?=some u->W.cell? ⟨b,off+i*7+j,none⟩=some u:=by
   intro i hil;obtain⟨cs',hc,ht'⟩:=hi i (by omega)
   obtain⟨ys,n',hn',hy,hlen,hyl,hfl⟩:=DataW.trod_struct Tryz.underlying54 ht'
   obtain⟨_,hcl,hat⟩:=World.cells?_some hc
   have hone:∀j (hj:j<cs'.length),(cs'.drop j).take 1=[cs'[j]]:=fun j hj=>by rw[List.drop_eq_getElem_cons hj];rfl
   rw[Zgo] at hlen;have g0:DataW.trod enc Tryz.prog W 0 (fun _=>true) true n' 9 ((cs'.drop 0).take (Tryz.prog.cellsOf 9))=ys[0]?:=hfl 0 _ rfl;have g1:DataW.trod enc Tryz.prog W 0 (fun _=>true) true n' 9 ((cs'.drop 1).take (Tryz.prog.cellsOf 9))=ys[1]?:=hfl 1 _ rfl;have g2:DataW.trod enc Tryz.prog W 0 (fun _=>true) true n' 23 ((cs'.drop 2).take (Tryz.prog.cellsOf 23))=ys[2]?:=hfl 2 _ rfl;have g3:DataW.trod enc Tryz.prog W 0 (fun _=>true) true n' 23 ((cs'.drop 3).take (Tryz.prog.cellsOf 23))=ys[3]?:=hfl 3 _ rfl;have g4:DataW.trod enc Tryz.prog W 0 (fun _=>true) true n' 24 ((cs'.drop 4).take (Tryz.prog.cellsOf 24))=ys[4]?:=hfl 4 _ rfl;have g5:DataW.trod enc Tryz.prog W 0 (fun _=>true) true n' 24 ((cs'.drop 5).take (Tryz.prog.cellsOf 24))=ys[5]?:=hfl 5 _ rfl;have g6:DataW.trod enc Tryz.prog W 0 (fun _=>true) true n' 24 ((cs'.drop 6).take (Tryz.prog.cellsOf 24))=ys[6]?:=hfl 6 _ rfl;rw[Zar,hone _ (by omega),List.getElem?_eq_getElem (by rw[hyl];decide)] at g0;rw[Zar,hone _ (by omega),List.getElem?_eq_getElem (by rw[hyl];decide)] at g1;rw[Zds,hone _ (by omega),List.getElem?_eq_getElem (by rw[hyl];decide)] at g2;rw[Zds,hone _ (by omega),List.getElem?_eq_getElem (by rw[hyl];decide)] at g3;rw[ZbI,hone _ (by omega),List.getElem?_eq_getElem (by rw[hyl];decide)] at g4;rw[ZbI,hone _ (by omega),List.getElem?_eq_getElem (by rw[hyl];decide)] at g5;rw[ZbI,hone _ (by omega),List.getElem?_eq_getElem (by rw[hyl];decide)] at g6;obtain⟨s0,e0,_,l0⟩:=DataW.trod_string Tryz.underlying9 g0
   obtain⟨s1,e1,_,l1⟩:=DataW.trod_string Tryz.underlying9 g1
   obtain⟨k2,e2,_,l2⟩:=DataW.trod_int Tryz.underlying23 g2
   obtain⟨k3,e3,_,l3⟩:=DataW.trod_int Tryz.underlying23 g3
   obtain⟨s4,e4,_,l4⟩:=DataW.trod_string Tryz.underlying24 g4
   obtain⟨s5,e5,_,l5⟩:=DataW.trod_string Tryz.underlying24 g5
   obtain⟨s6,e6,_,l6⟩:=DataW.trod_string Tryz.underlying24 g6
   simp only[List.cons.injEq,and_true] at e0 e1 e2 e3 e4 e5 e6;have hc0:=hat 0 (by omega);rw[List.getElem?_eq_getElem (by omega),e0] at hc0;have hsp:=hspot (by omega);subst hsp;rw[Addr.add_lit,Addr.add_lit] at hc0
   have hbl:b<W.1.size:=by
    by_cases hh:b<W.1.size
    ·exact hh
    ·have hnone:W.heap[b]?=none:=Array.getElem?_eq_none (by omega);simp[World.cell?,hnone] at hc0
   refine⟨⟨s0.data.toList,s1.data.toList,k2,k3,s4.data.toList,s5.data.toList,s6.data.toList⟩,hbl,rfl,⟨Zl1 l2,Zl1 l3⟩,fun j u hu=> ?_⟩;have hj:j<7:=by have:=(List.getElem?_eq_some_iff.1 hu).1;rwa [Ql] at this
   have hcj:=hat j (by omega);rw[List.getElem?_eq_getElem (by omega)] at hcj
   have hu':u=cs'[j]'(by omega):=by
    match j,hj,hu with
    |0,_,hu=>rw[e0,Jg];exact(Option.some.inj hu).symm
    |1,_,hu=>rw[e1,Jg];exact(Option.some.inj hu).symm
    |2,_,hu=>rw[e2];exact(Option.some.inj hu).symm
    |3,_,hu=>rw[e3];exact(Option.some.inj hu).symm
    |4,_,hu=>rw[e4,Jg];exact(Option.some.inj hu).symm
    |5,_,hu=>rw[e5,Jg];exact(Option.some.inj hu).symm
    |6,_,hu=>rw[e6,Jg];exact(Option.some.inj hu).symm
   rw[Addr.add_lit,Addr.add_lit] at hcj;rw[hu'];exact hcj
  obtain⟨xs,hxl,hxp⟩:=ZhA len key
  refine⟨_,len,_,xs,rfl,by omega,⟨hxl.symm,fun hn=> ?_⟩,?_,fun y hy=> ?_⟩
  ·obtain⟨r,hb,hs,_⟩:=key 0 hn
   subst hs;exact⟨b,off,rfl,hb,fun i x hix j u hju=>(hxp i x hix).2.2.2 j u hju⟩
  ·exact .inr ⟨_,rfl⟩
  ·obtain⟨i,hi'⟩:=List.getElem?_of_mem hy
   exact(hxp i y hi').2.2.1
theorem Za8{H:Type}{enc:TypeId×Value->H}{W:World}{n:Nat}{x y:Value}{z:DataW H×List MemPlace}(h:DataW.trod enc Tryz.prog W 0 (fun _=>true) true n 26 [x,y]=some z):
 ∃f:Fr,x=S f.n/\y=S f.d/\f.n.length<=maxLen/\f.d.length<=maxLen:=by
 obtain⟨ys,n',hn',hy,hlen,hyl,hfl⟩:=DataW.trod_struct Tryz.underlying26 h
 have g0:DataW.trod enc Tryz.prog W 0 (fun _=>true) true n' 24 (([x,y].drop 0).take (Tryz.prog.cellsOf 24))=ys[0]?:=hfl 0 _ rfl;have g1:DataW.trod enc Tryz.prog W 0 (fun _=>true) true n' 24 (([x,y].drop 1).take (Tryz.prog.cellsOf 24))=ys[1]?:=hfl 1 _ rfl;rw[ZbI,List.getElem?_eq_getElem (by rw[hyl];decide)] at g0 g1;obtain⟨s0,e0,_,l0⟩:=DataW.trod_string Tryz.underlying24 g0
 obtain⟨s1,e1,_,l1⟩:=DataW.trod_string Tryz.underlying24 g1
 simp only[List.drop_zero,List.take_succ_cons,List.take_zero,List.drop_succ_cons,List.cons.injEq,and_true] at e0 e1;exact⟨⟨s0.data.toList,s1.data.toList⟩,by rw[e0];exact Jg s0,by rw[e1];exact Jg s1,ZbJ l0,ZbJ l1⟩
theorem ZkE{H:Type}{enc:TypeId×Value->H}{W:World}{base:Nat}{v:Value}{d:DataW H}{p:List MemPlace}(hv:Value.okWide Tryz.prog W .any base 28 v)(h:DataW.Trod enc Tryz.prog W 0 (fun _=>true) true 28 v d p):
 ∃m:Mp,v=MpV m/\m.Max/\ -9223372036854775808<=m.day/\m.day<=9223372036854775807:=by
 obtain⟨cs,rfl,hsz⟩:=okWide_struct Tryz.underlying28 hv
 rw[ZkD] at hsz;obtain⟨fuel,hf⟩:=h
 obtain⟨ys,n',hn',hy,hlen,hyl,hfl⟩:=DataW.trod_struct Tryz.underlying28 hf
 obtain⟨c,hc⟩:∃c:List Value,c=cs.toList:=⟨_,rfl⟩
 have hcl:c.length=11:=by rw[hc,Array.length_toList];exact hsz
 have hcv:(Value.agg cs).cells.toList=c:=by rw[hc];rfl
 rw[hcv] at hfl hlen;have hone:∀j (hj:j<c.length),(c.drop j).take 1=[c[j]]:=fun j hj=>by rw[List.drop_eq_getElem_cons hj];rfl
 have htwo:∀j (hj:j+1<c.length),(c.drop j).take 2=[c[j],c[j+1]]:=fun j hj=>by rw[List.drop_eq_getElem_cons (by omega),List.drop_eq_getElem_cons hj];rfl
 have g0:DataW.trod enc Tryz.prog W 0 (fun _=>true) true n' 9 ((c.drop 0).take (Tryz.prog.cellsOf 9))=ys[0]?:=hfl 0 _ rfl;have g1:DataW.trod enc Tryz.prog W 0 (fun _=>true) true n' 23 ((c.drop 1).take (Tryz.prog.cellsOf 23))=ys[1]?:=hfl 1 _ rfl;have g2:DataW.trod enc Tryz.prog W 0 (fun _=>true) true n' 9 ((c.drop 2).take (Tryz.prog.cellsOf 9))=ys[2]?:=hfl 2 _ rfl;have g3:DataW.trod enc Tryz.prog W 0 (fun _=>true) true n' 9 ((c.drop 3).take (Tryz.prog.cellsOf 9))=ys[3]?:=hfl 3 _ rfl;have g4:DataW.trod enc Tryz.prog W 0 (fun _=>true) true n' 26 ((c.drop 4).take (Tryz.prog.cellsOf 26))=ys[4]?:=hfl 4 _ rfl;have g5:DataW.trod enc Tryz.prog W 0 (fun _=>true) true n' 26 ((c.drop 6).take (Tryz.prog.cellsOf 26))=ys[5]?:=hfl 5 _ rfl;have g6:DataW.trod enc Tryz.prog W 0 (fun _=>true) true n' 26 ((c.drop 8).take (Tryz.prog.cellsOf 26))=ys[6]?:=hfl 6 _ rfl;have g7:DataW.trod enc Tryz.prog W 0 (fun _=>true) true n' 4 ((c.drop 10).take (Tryz.prog.cellsOf 4))=ys[7]?:=hfl 7 _ rfl;rw[Zar,hone _ (by omega),List.getElem?_eq_getElem (by rw[hyl];decide)] at g0;rw[Zds,hone _ (by omega),List.getElem?_eq_getElem (by rw[hyl];decide)] at g1;rw[Zar,hone _ (by omega),List.getElem?_eq_getElem (by rw[hyl];decide)] at g2;rw[Zar,hone _ (by omega),List.getElem?_eq_getElem (by rw[hyl];decide)] at g3;rw[Zcc,htwo _ (by omega),List.getElem?_eq_getElem (by rw[hyl];decide)] at g4;rw[Zcc,htwo _ (by omega),List.getElem?_eq_getElem (by rw[hyl];decide)] at g5;rw[Zcc,htwo _ (by omega),List.getElem?_eq_getElem (by rw[hyl];decide)] at g6;rw[Zjc,hone _ (by omega),List.getElem?_eq_getElem (by rw[hyl];decide)] at g7;obtain⟨s0,e0,_,l0⟩:=DataW.trod_string Tryz.underlying9 g0
 obtain⟨k1,e1,_,l1⟩:=DataW.trod_int Tryz.underlying23 g1
 obtain⟨s2,e2,_,l2⟩:=DataW.trod_string Tryz.underlying9 g2
 obtain⟨s3,e3,_,l3⟩:=DataW.trod_string Tryz.underlying9 g3
 obtain⟨f4,a4,b4,u4,w4⟩:=Za8 g4
 obtain⟨f5,a5,b5,u5,w5⟩:=Za8 g5
 obtain⟨f6,a6,b6,u6,w6⟩:=Za8 g6
 obtain⟨b7,e7,_⟩:=DataW.trod_bool Tryz.underlying4 g7
 simp only[List.cons.injEq,and_true] at e0 e1 e2 e3 e7
 have hcs:c=[.string s0,.int .i64 k1,.string s2,.string s3,S f4.n,S f4.d,S f5.n,S f5.d,S f6.n,S f6.d,.bool b7]:=by
  refine List.ext_getElem (by rw[hcl];rfl) fun j h1 h2=> ?_
  have hj:j<11:=by omega
  match j,hj with
  |0,_=>exact e0
  |1,_=>exact e1
  |2,_=>exact e2
  |3,_=>exact e3
  |4,_=>exact a4
  |5,_=>exact b4
  |6,_=>exact a5
  |7,_=>exact b5
  |8,_=>exact a6
  |9,_=>exact b6
  |10,_=>exact e7
 refine⟨⟨s0.data.toList,k1,s2.data.toList,s3.data.toList,f4,f5,f6,b7⟩,?_,⟨ZbJ l0,ZbJ l2,ZbJ l3,u4,w4,u5,w5,u6,w6⟩,(Zl1 l1).1,(Zl1 l1).2⟩;have:cs=c.toArray:=by rw[hc]
 rw[this,hcs,Jg,Jg,Jg];rfl
theorem Zdt{P:Program}{W:World}{name dn:String}{d:DataW Unit}{g:Nat}{t:TypeId}{ms:Array (String×TypeId)}(hg:P.globalNamed name=some g)(hty:(P.globals[g]?).map (·.type)=some t)(hi:P.underlying t=some (.interface ms))
 (h:laidMet P [(name,.iface dn d)] W):∃u v,W.var? P name=some #[.iface u v]:=by
 obtain⟨ps,⟨g',t',cs,fuel,p,q,hg',ht',hvar,hd,_,_⟩,_⟩:=h
 obtain rfl:=Option.some.inj (hg.symm.trans hg');obtain rfl:=Option.some.inj (hty.symm.trans ht');obtain⟨f',u,v,hcs,_,_⟩:=iface_of_trod hi hd
 refine⟨u,v,?_⟩;rw[hvar]
 congr 1
 exact Array.ext' hcs
noncomputable def Zcd(os:Os):World:=
 {World.doorLaid Tryz.prog 400 os with heap:=(World.doorLaid Tryz.prog 400 os).heap.modify 4 fun
  | .cells _ t frozen=>.cells (Pinned.utf8FirstZ.map fun(n:Nat)=>Value.int .u8 (n:Int)).toArray t frozen
  |o=>o}
theorem ZkF(os:Os)(args:Array Value):laidMet Tryz.prog Rows.lotmapMapsRow.laid ((Zcd os).forCall (fun _ _=>0) ⟨#[],args,[]⟩).memory:=
 laidMet_of_run' 8 (by kernel_rfl) (by kernel_rfl)
theorem Zgp{W:World}(h:laidMetH Tryz.prog Rows.lotmapMapsRow.laid W):Env W:=by
 have h0:laidMet Tryz.prog Rows.lotmapMapsRow.laid W:=h;have h1:=h0.filter (fun x=>x.1== "internal/strconv.uint64pow10");have e:Rows.lotmapMapsRow.laid.filter (fun x=>x.1== "internal/strconv.uint64pow10")=[("internal/strconv.uint64pow10",Lib.tabData .u64 Lib.pow10Tab)]:=by kernel_rfl
 rw[e] at h1;have h2:=h0.filter (fun x=>x.1== "strconv.ErrSyntax");have e2:Rows.lotmapMapsRow.laid.filter (fun x=>x.1== "strconv.ErrSyntax")=[("strconv.ErrSyntax",.iface "*errors.errorString" (.ptr (.agg [.lit (.string [105,110,118,97,108,105,100,32,115,121,110,116,97,120])])))]:=by kernel_rfl
 rw[e2] at h2;have h3:=h0.filter (fun x=>x.1== "strconv.ErrRange");have e3:Rows.lotmapMapsRow.laid.filter (fun x=>x.1== "strconv.ErrRange")=[("strconv.ErrRange",.iface "*errors.errorString" (.ptr (.agg [.lit (.string [118,97,108,117,101,32,111,117,116,32,111,102,32,114,97,110,103,101])])))]:=by kernel_rfl
 rw[e3] at h3;refine⟨?_,?_,?_⟩
 ·exact Lib.tabIs_of_head (g:=2) (t:=256) (e:=166) (n:=20) (by kernel_rfl) (by kernel_rfl) Tryz.underlying256 Tryz.underlying166 (by kernel_rfl) (by kernel_rfl) h1
 ·exact Zdt (g:=0) (t:=168) (by kernel_rfl) (by kernel_rfl) Tryz.underlying168 h2
 ·exact Zdt (g:=1) (t:=168) (by kernel_rfl) (by kernel_rfl) Tryz.underlying168 h3
end
section
open Go.ChangeShapes Go.WideShapes Go.ChangeAt Go.RowKit Go.Deep
theorem Zfd{H:Type}{enc:TypeId×Value->H}{W:World}{v:Value}{d:DataW H}{p:List MemPlace}{A:Option Addr}{n c:Nat}(hv:v=.slice A n c)(h:DataW.Trod enc Tryz.prog W 0 (fun _=>true) true 22 v d p):n<=c:=by
 subst hv;obtain⟨fuel,hf⟩:=h
 rcases open_slice Tryz.underlying22 hf with ⟨hcs,hx⟩|⟨a,len',cap',m,n,D,Pl,hcs,_,hl,hm,hmm,hx,hi⟩
 ·simp[Value.cells] at hcs
  omega
 ·simp[Value.cells] at hcs
  obtain⟨rfl,rfl,rfl⟩:=hcs
  exact hl
end
namespace lawLotmapMaps
open Go.ChangeShapes Go.WideShapes Go.ChangeAt Go.RowKit Go.Deep
def Zl2:Prop:=∀(A0:Option Addr) (n0 c0:Nat) (xs0:List Lot) (m1:Mp) (W:World),Env W->n0<=c0->QU W W.1.size A0 n0 xs0->n0<=maxLen->((A0=none/\c0=0)\/∃a,A0=some a)->(∀y∈xs0,Lot.I y)->m1.Max->(-9223372036854775808<=m1.day/\m1.day<=9223372036854775807)->Calls Tryz.prog 3 #[.slice A0 n0 c0,MpV m1] W fun e w'=>e=.returned (.bool true)/\Below W.1.size W w'
theorem ZkG(hlaw:Zl2)(H:Type)(enc:TypeId×Value->H)(W:World)(hpow:Env W)(base:Nat)(args:Array Value)(ds gs:List (DataW H))(before:List MemPlace)
 (hval:∀(j:Nat) t v,Tryz.f3.params[j]?=some t->args[j]?=some v->Value.okWide Tryz.prog W .any base t v)
 (hW:DataW.Whole enc Tryz.prog Tryz.f3.params.toList Rows.lotmapMapsSpec.vars false W args.toList ds gs before):
 Calls Tryz.prog 3 args W fun e W'=>∃v,e=.returned v/\Rows.lotmapMapsSpec.post enc Tryz.prog Tryz.f3 false true false false W args v W':=by
 have hW':=hW;obtain⟨p,q,hA0,hV,rfl,hfz,hnd⟩:=hW
 have hA:DataW.TrodAll enc Tryz.prog W 0 (fun _=>true) true Tryz.f3.params.toList args.toList ds p:=hA0;rw[Tryz.params3] at hA hval;obtain⟨v0,vs0,d0,ds0,p0,q0,hargs0,rfl,rfl,h0,r0⟩:=trodAll_cons hA
 obtain⟨v1,vs1,d1,ds1,p1,q1,hargs1,rfl,rfl,h1,r1⟩:=trodAll_cons r0
 obtain⟨rfl,rfl,rfl⟩:=trodAll_nil r1
 obtain rfl:args=#[v0,v1]:=by cases args;simp_all
 obtain⟨rfl,rfl⟩:=trodVars_none hV
 obtain⟨A0,n0,c0,xs0,hv0,hn0,hr0,hz0,hi0⟩:=Zjd (hval 0 22 v0 (by kernel_rfl) (by kernel_rfl)) h0
 have hc0:=Zfd hv0 h0;subst hv0;obtain⟨m1,rfl,hm1,hd1⟩:=ZkE (hval 1 28 v1 (by kernel_rfl) (by kernel_rfl)) h1
 refine(hlaw A0 n0 c0 xs0 m1 W hpow hc0 hr0 hn0 hz0 hi0 hm1 hd1).mono fun e W' ⟨he,hb⟩=> ?_
 subst he;refine⟨_,rfl,Zhz Zl0 (fun t ht=> ?_) (tb:=4) (by kernel_rfl) Tryz.underlying4 rfl rfl hW' hb⟩;rw[Tryz.params3] at ht;have hall:([22,28].all fun t=>Tryz.prog.readableRec t&&decide (t<Tryz.prog.types.size))=true:=by kernel_rfl
 have:=List.all_eq_true.1 hall t (by simpa using ht)
 simpa using this
theorem Znp(os:Os){H:Type}(enc:TypeId×Value->H):∃places,DataW.whole enc Tryz.prog ((Zcd os).forCall (fun _ _=>0) ⟨#[],#[.slice none 0 0,.agg #[.string ⟨#[]⟩,.int .i64 0,.string ⟨#[]⟩,.string ⟨#[]⟩,.string ⟨#[]⟩,.string ⟨#[]⟩,.string ⟨#[]⟩,.string ⟨#[]⟩,.string ⟨#[]⟩,.string ⟨#[]⟩,.bool false]],[]⟩).memory Tryz.f3.params.toList Rows.lotmapMapsSpec.vars false (#[Value.slice none 0 0,Value.agg #[.string ⟨#[]⟩,.int .i64 0,.string ⟨#[]⟩,.string ⟨#[]⟩,.string ⟨#[]⟩,.string ⟨#[]⟩,.string ⟨#[]⟩,.string ⟨#[]⟩,.string ⟨#[]⟩,.string ⟨#[]⟩,.bool false]]:Array Value).toList 8=some ([.nil,.agg [.lit (.string []),.lit (.int .i64 0),.lit (.string []),.lit (.string []),.agg [.lit (.string []),.lit (.string [])],.agg [.lit (.string []),.lit (.string [])],.agg [.lit (.string []),.lit (.string [])],.lit (.bool false)]],[],places):=
 ⟨[],by kernel_rfl⟩
theorem ZmU(hlaw:Zl2)(os:Os)(started:os.Started)(H:Type)(enc:TypeId×Value->H)(F:Stop.Interp):
 ReturnsInHanded {} Tryz.checked os 3 .any ((OpenSpec.ofChange Rows.lotmapMapsSpec).preRow enc Tryz.prog Tryz.f3 Rows.lotmapMapsRow.domain false Rows.lotmapMapsRow.laid) (((OpenSpec.ofChange Rows.lotmapMapsSpec).at F).post enc Tryz.prog Tryz.f3 false true false false):=by
 obtain⟨places,hx⟩:=Znp os enc
 refine returnsInHanded_of_row (C:=Tryz.checked) (s:=OpenSpec.ofChange Rows.lotmapMapsSpec) own started (by kernel_rfl) Tryz.func3
  (witness_row_at (enc:=enc) (C:=Tryz.checked) false (Zcd os) #[.slice none 0 0,.agg #[.string ⟨#[]⟩,.int .i64 0,.string ⟨#[]⟩,.string ⟨#[]⟩,.string ⟨#[]⟩,.string ⟨#[]⟩,.string ⟨#[]⟩,.string ⟨#[]⟩,.string ⟨#[]⟩,.string ⟨#[]⟩,.bool false]] rfl (by kernel_rfl) (by kernel_rfl) (by kernel_rfl)
    (OpenSpec.preRow_of_cond 8 hx (by kernel_rfl) (fun k hk=>by cases hk) (by kernel_rfl) (ZkF os _))) ?_
 intro W base args ds gs before hval hW _ _ _ hL _ _;exact ZkG hlaw H enc W (Zgp hL) base args ds gs before hval hW
theorem ZnM(hlaw:Zl2):Rows.LotmapMapsSaid:=
 OpenClaim.holds_of_cond 3 Tryz.f3 rfl rfl rfl rfl rfl rfl rfl ⟨rfl,rfl,rfl,rfl,rfl⟩ rfl rfl rfl rfl rfl (by kernel_rfl) Tryz.func3 (by kernel_rfl)
  (of_decide_eq_true (by kernel_rfl)) (by unfold Func.isWrapper;first|(rw[if_pos (by decide+kernel)];kernel_rfl)|(rw[if_neg (by decide+kernel)];exact⟨rfl,rfl⟩))
  (fun os started H enc _ F=>by rw[OpenClaim.pre_eq_preRow];exact ZmU hlaw os started H enc F)
theorem Znq(f:FuncId)(fn:Func)(hf:Tryz.pinned.checked.prog.funcNamed "tranche/tranchelaw24.LotmapMaps" =some f)(hfn:Tryz.pinned.checked.prog.funcs[f]?=some fn):
 true=Tryz.pinned.checked.prog.looks []/\∀(j:Nat) t,fn.params[j]?=some t->Tryz.pinned.checked.prog.wantsStandIn t=false:=by
 obtain rfl:f=3:=Option.some.inj ((show Tryz.prog.funcNamed "tranche/tranchelaw24.LotmapMaps" =some 3 by kernel_rfl).symm.trans hf) |>.symm;obtain rfl:fn=Tryz.f3:=(Option.some.inj (Tryz.func3.symm.trans hfn)).symm;refine⟨by kernel_rfl,fun j t ht=> ?_⟩;rw[Tryz.params3] at ht;have hm:t∈[22,28]:=by simpa using Array.mem_of_getElem? ht
 have hall:([22,28].all fun u=> !Tryz.prog.wantsStandIn u)=true:=by kernel_rfl
 exact(show Tryz.prog.wantsStandIn t=false by simpa using List.all_eq_true.1 hall t hm)
theorem card(hlaw:Zl2):Rows.LotmapMapsCardSaid:=
 Claim7.holds_tied_plain_at .later [] _ _ _ _ (ZnM hlaw) (fun _ h=>by cases h) (by kernel_rfl) (fun _ h=>by cases h) lotmapMaps_row_tie rfl ⟨rfl,rfl⟩ (by kernel_rfl) rfl Znq (by kernel_rfl)
end lawLotmapMaps
end Go.Proofs.YtpnncoinlopndaaGreatDoor
