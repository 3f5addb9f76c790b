/- Rfb, Rfe, CaExchangePaths, CExchangePaths, CaExchangeTime, CExchangeTime. -/
import Derived.Test.YtokjnjdbnabchaaGreatDoorQGEp36
import Derived.Test.YtokjnjdbnabchaaGreatDoorCards
import Derived.Test.YtokjnjdbnabchaaGreatDoorTie
import Derived.Lib.SmallJoins
import Derived.LaidSub
import Derived.ProofKit
import Derived.OpenShut
import Derived.Carry
import Derived.LaidMore
import Derived.Deep.Slices
import Derived.Deep.DeepHandedRow
set_option maxRecDepth 100000
namespace Go.Proofs.YtokjnjdbnabchaaGreatDoor
section
open Go.ChangeShapes Go.WideShapes Go.ChangeAt Go.RowKit Go.Deep
theorem ZdS:laidOutB Tryz.prog=true:=by kernel_rfl
theorem own:ownKnob Tryz.prog.godebug=none:=by kernel_rfl
section
variable {H:Type} {enc:TypeId×Value->H} {P:Program}
theorem ZaC(hl:laidOutB P=true):∀{ts:List TypeId} {vs:List Value} {ds:List (DataW H)} {ps:List MemPlace} {W W':World} {sp:Nat->Bool},(∀t∈ts,P.readableRec t=true/\t<P.types.size)->
 DataW.TrodAll enc P W 0 (fun _=>true) true ts vs ds ps->(∀p∈ps,W.sameAt W' p)->(∀p∈ps,sp p.block=true)->DataW.TrodAll enc P W' 0 sp true ts vs ds ps:=by
 intro ts
 induction ts with
 |nil=>
  intro vs ds ps W W' sp _ h _ _;obtain⟨rfl,rfl,rfl⟩:=trodAll_nil h
  exact trodAll_mk0
 |cons t ts ih=>
  intro vs ds ps W W' sp hr h hs hp;obtain⟨v,vs',d,ds',p,q,rfl,rfl,rfl,h1,h2⟩:=trodAll_cons h
  refine trodAll_cons_mk (WideElems.Trod_stays hl (hr t (by simp)).1 (hr t (by simp)).2 h1 (fun x hx=>hs x (by simp[hx])) (fun x hx=>hp x (by simp[hx]))) (ih (fun t' ht'=>hr t' (by simp[ht'])) h2 (fun x hx=>hs x (by simp[hx])) (fun x hx=>hp x (by simp[hx])))
theorem JU{f:Func}{s:ChangeSpec}{apart fresh handsOn again:Bool}{W W':World}{args:Array Value}{ds gs:List (DataW H)}{before:List MemPlace}{tb:TypeId}
 (hl:laidOutB P=true) (hr:∀t∈f.params.toList,P.readableRec t=true/\t<P.types.size) (hrt:f.resultTypes=#[tb]) (hbt:P.underlying tb=some .bool) (hv:s.vars=[])
 (hfn:s.fn H (ds++gs)={results:=[.lit (.bool true)],args:=ds})
 (hW:DataW.Whole enc P f.params.toList s.vars apart W args.toList ds gs before) (hb:Below W.1.size W W'):s.post enc P f apart fresh handsOn again W args (.bool true) W':=by
 have hlt:∀p∈before,p.block<W.1.size:=hW.lt;have hold:∀p∈before,(fun b=>decide (b<W.1.size)) p.block=true:=fun p hp=>by simpa using hlt p hp
 have hW':=hW;obtain⟨p,q,hA,hV,hpq,hz,hn⟩:=hW
 rw[hv] at hV;obtain⟨rfl,rfl⟩:=trodVars_none hV
 simp only[List.append_nil] at hpq;subst hpq
 have hargs:∀sp:Nat->Bool,(∀x∈before,sp x.block=true)->DataW.TrodAll enc P W' 0 sp true f.params.toList args.toList ds before:=
  fun sp hs=>ZaC hl hr hA (fun x hx=>hb.same (hlt x hx)) hs
 have hres:∀(b:Nat) (sp:Nat->Bool) (hd:Bool),DataW.TrodAll enc P W' b sp hd f.resultTypes.toList ((Value.bool true).resultList f.resultTypes.size) (s.fn H (ds++[])).results []:=by
  intro b sp hd;rw[hfn,hrt];exact trodAll_mk1 (shut_bool hbt _)
 have hvars:∀sp:Nat->Bool,DataW.TrodVars enc P W' sp s.vars (s.fn H (ds++[])).vars []:=by
  intro sp;rw[hfn,hv];rfl
 refine⟨ds,[],before,[],before,[],hW',hres _ _ _,by rw[hfn];exact hargs _ hold,hvars _,World.keptBut_mono (fun x hx=>⟨hx,Or.inr (by simpa using hx)⟩) (hb.frame (·∈before)),fun _=> ?_⟩;have hres2:=hres 0 (fun _=>true) true;have hvars2:=hvars (fun _=>true);rw[hfn] at hres2 hvars2;refine⟨ok_one hrt rfl (okWide_bool_mk hbt _),_,_,([]++before)++[],⟨[]++before,[],trodAll_append (hargs _ (fun _ _=>rfl)) hres2,hvars2,rfl,?_,?_⟩,?_⟩
 ·intro b off hp;have hp':MemPlace.cell b off∈before:=by simpa using hp
  rw[hb.frozen (p:=⟨b,off,none⟩) (hlt _ hp')];exact hz b off (by simpa using hp)
 ·intro ha;have:=hn ha
  simpa using this
 ·intro x hx _;simpa using hx
end
theorem XB:Tryz.prog.cellsOf 28=2:=by kernel_rfl
theorem Zfv{k:Int}(h:(Lit.int .i64 k).wf=true): -9223372036854775808<=k/\k<=9223372036854775807:=by
 simp[Lit.wf] at h
 have e1:IntKind.i64.min= -9223372036854775808:=rfl;have e2:IntKind.i64.max=9223372036854775807:=rfl;omega
theorem Zdi{α:Type}{P:Nat->α->Prop}:∀n,(∀i,i<n->∃r,P i r)->∃xs:List α,xs.length=n/\∀i r,xs[i]?=some r->P i r:=by
 intro n
 induction n with
 |zero=>intro _;exact⟨[],rfl,fun i r h=>by simp at h⟩
 |succ n ih=>
  intro h;obtain⟨xs,hl,hx⟩:=ih (fun i hi=>h i (by omega))
  obtain⟨r,hr⟩:=h n (by omega)
  refine⟨xs++[r],by simp[hl],fun i r' hi=> ?_⟩
  by_cases hlt:i<xs.length
  ·rw[List.getElem?_append_left hlt] at hi;exact hx i r' hi
  ·rw[List.getElem?_append_right (by omega)] at hi;have hlen:=(List.getElem?_eq_some_iff.1 hi).1;simp at hlen;have e:i=n:=by omega
   subst e;rw[show i-xs.length=0 by omega] at hi;simp at hi;subst hi;exact hr
theorem Zfw:Tryz.prog.cellsOf 23=1:=by kernel_rfl
theorem YE:Tryz.prog.cellsOf 26=1:=by kernel_rfl
theorem XE:Tryz.prog.cellsOf 9=1:=by kernel_rfl
theorem Zeu:Tryz.prog.cellsOf 4=1:=by kernel_rfl
theorem Zdj(s:ByteArray):Value.string s=S s.data.toList:=by simp[S]
theorem ZbA{s:ByteArray}(h:s.size<=maxLen):s.data.toList.length<=maxLen:=by rw[Array.length_toList];exact h
theorem Xk{H:Type}{enc:TypeId×Value->H}{W:World}{n:Nat}{x y:Value}{z:DataW H×List MemPlace}(h:DataW.trod enc Tryz.prog W 0 (fun _=>true) true n 28 [x,y]=some z):
 ∃f:Fr,x=S f.n/\y=S f.d/\f.n.length<=maxLen/\f.d.length<=maxLen:=by
 obtain⟨ys,n',hn',hy,hlen,hyl,hfl⟩:=DataW.trod_struct Tryz.underlying28 h
 have g0:DataW.trod enc Tryz.prog W 0 (fun _=>true) true n' 26 (([x,y].drop 0).take (Tryz.prog.cellsOf 26))=ys[0]?:=hfl 0 _ rfl;have g1:DataW.trod enc Tryz.prog W 0 (fun _=>true) true n' 26 (([x,y].drop 1).take (Tryz.prog.cellsOf 26))=ys[1]?:=hfl 1 _ rfl;rw[YE,List.getElem?_eq_getElem (by rw[hyl];decide)] at g0 g1;obtain⟨s0,e0,_,l0⟩:=DataW.trod_string Tryz.underlying26 g0
 obtain⟨s1,e1,_,l1⟩:=DataW.trod_string Tryz.underlying26 g1
 simp only[List.drop_zero,List.take_succ_cons,List.take_zero,List.drop_succ_cons,List.cons.injEq,and_true] at e0 e1;exact⟨⟨s0.data.toList,s1.data.toList⟩,by rw[e0];exact Zdj s0,by rw[e1];exact Zdj s1,ZbA l0,ZbA l1⟩
theorem VU:Tryz.prog.cellsOf 3=1:=by kernel_rfl
theorem Zfx:Tryz.prog.cellsOf 41=1:=by kernel_rfl
theorem Zfy:Tryz.prog.cellsOf 42=1:=by kernel_rfl
theorem ZaW:Tryz.prog.cellsOf 160=2:=by kernel_rfl
theorem Ji:Tryz.prog.cellsOf 162=7:=by kernel_rfl
theorem ZaX:Tryz.prog.cellsOf 44=21:=by kernel_rfl
theorem VV{α:Type}{ec:α->List Value}{k:Nat}{P:α->Prop}{H:Type}{enc:TypeId×Value->H}{W:World}{t e:TypeId}(ht:Tryz.prog.underlying t=some (.slice e))(hce:Tryz.prog.cellsOf e=k)(hk:0<k)(hlen:∀r,(ec r).length=k)
 (hel:∀(n:Nat) (c:List Value) (z:DataW H×List MemPlace),DataW.trod enc Tryz.prog W 0 (fun _=>true) true n e c=some z->∃r,c=ec r/\P r) {n:Nat} {v:Value} {z:DataW H×List MemPlace} (h:DataW.trod enc Tryz.prog W 0 (fun _=>true) true n t [v]=some z):
 ∃A n c xs,v=.slice A n c/\n<=maxLen/\n<=c/\(A=none->c=0)/\Sl ec k W W.1.size A n xs/\∀x∈xs,P x:=by
 rcases open_slice ht h with ⟨hcs,hx⟩|⟨a,len,cap,m,n,D,Pl,hcs,_,hl,hm,hmm,hx,hi⟩
 ·simp only[List.cons.injEq,and_true] at hcs;exact⟨none,0,0,[],hcs,Nat.zero_le _,Nat.le_refl _,fun _=>rfl,Sl.nil,fun x hx=>by cases hx⟩
 ·simp only[List.cons.injEq,and_true] at hcs;simp only[if_true] at hmm;subst hmm;obtain⟨b,off,spot⟩:=a
  rw[hce] at hi
  have hspot:0<len->spot=none:=by
   intro h0;obtain⟨cs',hc,ht'⟩:=hi 0 (by omega)
   obtain⟨r,rfl,_⟩:=hel _ _ _ ht'
   obtain⟨_,hcl,hat⟩:=World.cells?_some hc
   have hc0:=hat 0 (by omega);rw[List.getElem?_eq_getElem (by rw[hlen];omega)] at hc0;simpa[Addr.add] using World.cell?_spot hc0
  have key:∀i,i<len->∃r:α,b<W.1.size/\spot=none/\P r/\∀j u,(ec r)[j]?=some u->W.cell? ⟨b,off+i*k+j,none⟩=some u:=by
   intro i hil;obtain⟨cs',hc,ht'⟩:=hi i (by omega)
   obtain⟨r,rfl,hr⟩:=hel _ _ _ ht'
   obtain⟨_,hcl,hat⟩:=World.cells?_some hc
   have hc0:=hat 0 (by omega);rw[List.getElem?_eq_getElem (by rw[hlen];omega)] at hc0;have hsp:=hspot (by omega);subst hsp;rw[Addr.add_lit,Addr.add_lit] at hc0
   have hbl:b<W.1.size:=by
    by_cases hh:b<W.1.size
    ·exact hh
    ·have hnone:W.heap[b]?=none:=Array.getElem?_eq_none (by omega);simp[World.cell?,hnone] at hc0
   refine⟨r,hbl,rfl,hr,fun j u hu=> ?_⟩;have hj:j<k:=by have:=(List.getElem?_eq_some_iff.1 hu).1;rwa [hlen] at this
   have hcj:=hat j (by omega);rw[Addr.add_lit,Addr.add_lit,hu] at hcj;exact hcj
  obtain⟨xs,hxl,hxp⟩:=Zdi len key
  refine⟨_,len,_,xs,hcs,by omega,hl,(fun e=>by cases e),⟨hxl.symm,fun hn=> ?_⟩,fun x hx=> ?_⟩
  ·obtain⟨r,hb,hs,_⟩:=key 0 hn
   subst hs;exact⟨b,off,rfl,hb,fun i x hix j u hju=>(hxp i x hix).2.2.2 j u hju⟩
  ·obtain⟨i,hi⟩:=List.getElem?_of_mem hx
   exact(hxp i x hi).2.2.1
theorem Zfz{H:Type}{enc:TypeId×Value->H}{W:World}(n:Nat)(c:List Value)(z:DataW H×List MemPlace)(h:DataW.trod enc Tryz.prog W 0 (fun _=>true) true n 160 c=some z):∃r:Pk,c=P2 r/\True:=by
 obtain⟨ys,n',hn',hy,hlen,hyl,hfl⟩:=DataW.trod_struct Tryz.underlying160 h
 rw[ZaW] at hlen;have hcl:c.length=2:=hlen;have hone:∀j (hj:j<c.length),(c.drop j).take 1=[c[j]]:=fun j hj=>by rw[List.drop_eq_getElem_cons hj];rfl
 have htwo:∀j (hj:j+1<c.length),(c.drop j).take 2=[c[j],c[j+1]]:=fun j hj=>by rw[List.drop_eq_getElem_cons (by omega),List.drop_eq_getElem_cons hj];rfl
 have g0:DataW.trod enc Tryz.prog W 0 (fun _=>true) true n' 9 ((c.drop 0).take (Tryz.prog.cellsOf 9))=ys[0]?:=hfl 0 _ rfl;have g1:DataW.trod enc Tryz.prog W 0 (fun _=>true) true n' 26 ((c.drop 1).take (Tryz.prog.cellsOf 26))=ys[1]?:=hfl 1 _ rfl;rw[XE,hone _ (by omega),List.getElem?_eq_getElem (by rw[hyl];decide)] at g0;rw[YE,hone _ (by omega),List.getElem?_eq_getElem (by rw[hyl];decide)] at g1;obtain⟨s0,e0,_,l0⟩:=DataW.trod_string Tryz.underlying9 g0
 obtain⟨s1,e1,_,l1⟩:=DataW.trod_string Tryz.underlying26 g1
 simp only[List.cons.injEq,and_true] at e0 e1
 have hcs:c=[.string s0,.string s1]:=by
  refine List.ext_getElem (by rw[hcl];rfl) fun j h1 h2=> ?_
  have hj:j<2:=by omega
  match j,hj with
  |0,_=>exact e0
  |1,_=>exact e1
  |q+2,hq=>exact absurd hq (by omega)
 refine⟨⟨s0.data.toList,s1.data.toList⟩,?_,trivial⟩;rw[hcs];simp[P2,S]
theorem ZfA{H:Type}{enc:TypeId×Value->H}{W:World}{n:Nat}{v:Value}{z:DataW H×List MemPlace}(h:DataW.trod enc Tryz.prog W 0 (fun _=>true) true n 41 [v]=some z):∃A n c xs,v=.slice A n c/\n<=maxLen/\n<=c/\Sl P2 2 W W.1.size A n xs:=by
 obtain⟨A,n,c,xs,h1,h2,h3,_,h4,_⟩:=VV Tryz.underlying41 ZaW (by omega) Zic Zfz h
 exact⟨A,n,c,xs,h1,h2,h3,h4⟩
theorem ZfB{H:Type}{enc:TypeId×Value->H}{W:World}(n:Nat)(c:List Value)(z:DataW H×List MemPlace)(h:DataW.trod enc Tryz.prog W 0 (fun _=>true) true n 162 c=some z):∃r:Opn,c=O7 r/\True:=by
 obtain⟨ys,n',hn',hy,hlen,hyl,hfl⟩:=DataW.trod_struct Tryz.underlying162 h
 rw[Ji] at hlen;have hcl:c.length=7:=hlen;have hone:∀j (hj:j<c.length),(c.drop j).take 1=[c[j]]:=fun j hj=>by rw[List.drop_eq_getElem_cons hj];rfl
 have htwo:∀j (hj:j+1<c.length),(c.drop j).take 2=[c[j],c[j+1]]:=fun j hj=>by rw[List.drop_eq_getElem_cons (by omega),List.drop_eq_getElem_cons hj];rfl
 have g0:DataW.trod enc Tryz.prog W 0 (fun _=>true) true n' 9 ((c.drop 0).take (Tryz.prog.cellsOf 9))=ys[0]?:=hfl 0 _ rfl;have g1:DataW.trod enc Tryz.prog W 0 (fun _=>true) true n' 28 ((c.drop 1).take (Tryz.prog.cellsOf 28))=ys[1]?:=hfl 1 _ rfl;have g2:DataW.trod enc Tryz.prog W 0 (fun _=>true) true n' 28 ((c.drop 3).take (Tryz.prog.cellsOf 28))=ys[2]?:=hfl 2 _ rfl;have g3:DataW.trod enc Tryz.prog W 0 (fun _=>true) true n' 28 ((c.drop 5).take (Tryz.prog.cellsOf 28))=ys[3]?:=hfl 3 _ rfl;rw[XE,hone _ (by omega),List.getElem?_eq_getElem (by rw[hyl];decide)] at g0;rw[XB,htwo _ (by omega),List.getElem?_eq_getElem (by rw[hyl];decide)] at g1;rw[XB,htwo _ (by omega),List.getElem?_eq_getElem (by rw[hyl];decide)] at g2;rw[XB,htwo _ (by omega),List.getElem?_eq_getElem (by rw[hyl];decide)] at g3;obtain⟨s0,e0,_,l0⟩:=DataW.trod_string Tryz.underlying9 g0
 obtain⟨f1,a1,b1,u1,w1⟩:=Xk g1
 obtain⟨f2,a2,b2,u2,w2⟩:=Xk g2
 obtain⟨f3,a3,b3,u3,w3⟩:=Xk g3
 simp only[List.cons.injEq,and_true] at e0
 have hcs:c=[.string s0,S f1.n,S f1.d,S f2.n,S f2.d,S f3.n,S f3.d]:=by
  refine List.ext_getElem (by rw[hcl];rfl) fun j h1 h2=> ?_
  have hj:j<7:=by omega
  match j,hj with
  |0,_=>exact e0
  |1,_=>exact a1
  |2,_=>exact b1
  |3,_=>exact a2
  |4,_=>exact b2
  |5,_=>exact a3
  |6,_=>exact b3
  |q+7,hq=>exact absurd hq (by omega)
 refine⟨⟨s0.data.toList,f1,f2,f3⟩,?_,trivial⟩;rw[hcs];simp[O7,S]
theorem ZfC{H:Type}{enc:TypeId×Value->H}{W:World}{n:Nat}{v:Value}{z:DataW H×List MemPlace}(h:DataW.trod enc Tryz.prog W 0 (fun _=>true) true n 42 [v]=some z):∃A n c xs,v=.slice A n c/\n<=maxLen/\n<=c/\Sl O7 7 W W.1.size A n xs:=by
 obtain⟨A,n,c,xs,h1,h2,h3,_,h4,_⟩:=VV Tryz.underlying42 Ji (by omega) Zid ZfB h
 exact⟨A,n,c,xs,h1,h2,h3,h4⟩
theorem Zdk{H:Type}{enc:TypeId×Value->H}{W:World}(n:Nat)(c:List Value)(z:DataW H×List MemPlace)(h:DataW.trod enc Tryz.prog W 0 (fun _=>true) true n 44 c=some z):∃x:Fx,c=YY x/\FxI W x:=by
 obtain⟨ys,n',hn',hy,hlen,hyl,hfl⟩:=DataW.trod_struct Tryz.underlying44 h
 rw[ZaX] at hlen;have hcl:c.length=21:=hlen;have hone:∀j (hj:j<c.length),(c.drop j).take 1=[c[j]]:=fun j hj=>by rw[List.drop_eq_getElem_cons hj];rfl
 have htwo:∀j (hj:j+1<c.length),(c.drop j).take 2=[c[j],c[j+1]]:=fun j hj=>by rw[List.drop_eq_getElem_cons (by omega),List.drop_eq_getElem_cons hj];rfl
 have g0:DataW.trod enc Tryz.prog W 0 (fun _=>true) true n' 9 ((c.drop 0).take (Tryz.prog.cellsOf 9))=ys[0]?:=hfl 0 _ rfl;have g1:DataW.trod enc Tryz.prog W 0 (fun _=>true) true n' 3 ((c.drop 1).take (Tryz.prog.cellsOf 3))=ys[1]?:=hfl 1 _ rfl;have g2:DataW.trod enc Tryz.prog W 0 (fun _=>true) true n' 4 ((c.drop 2).take (Tryz.prog.cellsOf 4))=ys[2]?:=hfl 2 _ rfl;have g3:DataW.trod enc Tryz.prog W 0 (fun _=>true) true n' 23 ((c.drop 3).take (Tryz.prog.cellsOf 23))=ys[3]?:=hfl 3 _ rfl;have g4:DataW.trod enc Tryz.prog W 0 (fun _=>true) true n' 3 ((c.drop 4).take (Tryz.prog.cellsOf 3))=ys[4]?:=hfl 4 _ rfl;have g5:DataW.trod enc Tryz.prog W 0 (fun _=>true) true n' 9 ((c.drop 5).take (Tryz.prog.cellsOf 9))=ys[5]?:=hfl 5 _ rfl;have g6:DataW.trod enc Tryz.prog W 0 (fun _=>true) true n' 9 ((c.drop 6).take (Tryz.prog.cellsOf 9))=ys[6]?:=hfl 6 _ rfl;have g7:DataW.trod enc Tryz.prog W 0 (fun _=>true) true n' 9 ((c.drop 7).take (Tryz.prog.cellsOf 9))=ys[7]?:=hfl 7 _ rfl;have g8:DataW.trod enc Tryz.prog W 0 (fun _=>true) true n' 9 ((c.drop 8).take (Tryz.prog.cellsOf 9))=ys[8]?:=hfl 8 _ rfl;have g9:DataW.trod enc Tryz.prog W 0 (fun _=>true) true n' 26 ((c.drop 9).take (Tryz.prog.cellsOf 26))=ys[9]?:=hfl 9 _ rfl;have g10:DataW.trod enc Tryz.prog W 0 (fun _=>true) true n' 26 ((c.drop 10).take (Tryz.prog.cellsOf 26))=ys[10]?:=hfl 10 _ rfl;have g11:DataW.trod enc Tryz.prog W 0 (fun _=>true) true n' 26 ((c.drop 11).take (Tryz.prog.cellsOf 26))=ys[11]?:=hfl 11 _ rfl;have g12:DataW.trod enc Tryz.prog W 0 (fun _=>true) true n' 28 ((c.drop 12).take (Tryz.prog.cellsOf 28))=ys[12]?:=hfl 12 _ rfl;have g13:DataW.trod enc Tryz.prog W 0 (fun _=>true) true n' 28 ((c.drop 14).take (Tryz.prog.cellsOf 28))=ys[13]?:=hfl 13 _ rfl;have g14:DataW.trod enc Tryz.prog W 0 (fun _=>true) true n' 28 ((c.drop 16).take (Tryz.prog.cellsOf 28))=ys[14]?:=hfl 14 _ rfl;have g15:DataW.trod enc Tryz.prog W 0 (fun _=>true) true n' 41 ((c.drop 18).take (Tryz.prog.cellsOf 41))=ys[15]?:=hfl 15 _ rfl;have g16:DataW.trod enc Tryz.prog W 0 (fun _=>true) true n' 42 ((c.drop 19).take (Tryz.prog.cellsOf 42))=ys[16]?:=hfl 16 _ rfl;have g17:DataW.trod enc Tryz.prog W 0 (fun _=>true) true n' 3 ((c.drop 20).take (Tryz.prog.cellsOf 3))=ys[17]?:=hfl 17 _ rfl;rw[XE,hone _ (by omega),List.getElem?_eq_getElem (by rw[hyl];decide)] at g0;rw[VU,hone _ (by omega),List.getElem?_eq_getElem (by rw[hyl];decide)] at g1;rw[Zeu,hone _ (by omega),List.getElem?_eq_getElem (by rw[hyl];decide)] at g2;rw[Zfw,hone _ (by omega),List.getElem?_eq_getElem (by rw[hyl];decide)] at g3;rw[VU,hone _ (by omega),List.getElem?_eq_getElem (by rw[hyl];decide)] at g4;rw[XE,hone _ (by omega),List.getElem?_eq_getElem (by rw[hyl];decide)] at g5;rw[XE,hone _ (by omega),List.getElem?_eq_getElem (by rw[hyl];decide)] at g6;rw[XE,hone _ (by omega),List.getElem?_eq_getElem (by rw[hyl];decide)] at g7;rw[XE,hone _ (by omega),List.getElem?_eq_getElem (by rw[hyl];decide)] at g8;rw[YE,hone _ (by omega),List.getElem?_eq_getElem (by rw[hyl];decide)] at g9;rw[YE,hone _ (by omega),List.getElem?_eq_getElem (by rw[hyl];decide)] at g10;rw[YE,hone _ (by omega),List.getElem?_eq_getElem (by rw[hyl];decide)] at g11;rw[XB,htwo _ (by omega),List.getElem?_eq_getElem (by rw[hyl];decide)] at g12;rw[XB,htwo _ (by omega),List.getElem?_eq_getElem (by rw[hyl];decide)] at g13;rw[XB,htwo _ (by omega),List.getElem?_eq_getElem (by rw[hyl];decide)] at g14;rw[Zfx,hone _ (by omega),List.getElem?_eq_getElem (by rw[hyl];decide)] at g15;rw[Zfy,hone _ (by omega),List.getElem?_eq_getElem (by rw[hyl];decide)] at g16;rw[VU,hone _ (by omega),List.getElem?_eq_getElem (by rw[hyl];decide)] at g17;obtain⟨s0,e0,_,l0⟩:=DataW.trod_string Tryz.underlying9 g0
 obtain⟨k1,e1,_,l1⟩:=DataW.trod_int Tryz.underlying3 g1
 obtain⟨b2,e2,_⟩:=DataW.trod_bool Tryz.underlying4 g2
 obtain⟨k3,e3,_,l3⟩:=DataW.trod_int Tryz.underlying23 g3
 obtain⟨k4,e4,_,l4⟩:=DataW.trod_int Tryz.underlying3 g4
 obtain⟨s5,e5,_,l5⟩:=DataW.trod_string Tryz.underlying9 g5
 obtain⟨s6,e6,_,l6⟩:=DataW.trod_string Tryz.underlying9 g6
 obtain⟨s7,e7,_,l7⟩:=DataW.trod_string Tryz.underlying9 g7
 obtain⟨s8,e8,_,l8⟩:=DataW.trod_string Tryz.underlying9 g8
 obtain⟨s9,e9,_,l9⟩:=DataW.trod_string Tryz.underlying26 g9
 obtain⟨s10,e10,_,l10⟩:=DataW.trod_string Tryz.underlying26 g10
 obtain⟨s11,e11,_,l11⟩:=DataW.trod_string Tryz.underlying26 g11
 obtain⟨f12,a12,b12,u12,w12⟩:=Xk g12
 obtain⟨f13,a13,b13,u13,w13⟩:=Xk g13
 obtain⟨f14,a14,b14,u14,w14⟩:=Xk g14
 obtain⟨A15,n15,c15,x15,e15,l15,m15,r15⟩:=ZfA g15
 obtain⟨A16,n16,c16,x16,e16,l16,m16,r16⟩:=ZfC g16
 obtain⟨k17,e17,_,l17⟩:=DataW.trod_int Tryz.underlying3 g17
 simp only[List.cons.injEq,and_true] at e0 e1 e2 e3 e4 e5 e6 e7 e8 e9 e10 e11 e17
 have hcs:c=[.string s0,.int .i64 k1,.bool b2,.int .i64 k3,.int .i64 k4,.string s5,.string s6,.string s7,.string s8,.string s9,.string s10,.string s11,S f12.n,S f12.d,S f13.n,S f13.d,S f14.n,S f14.d,.slice A15 n15 c15,.slice A16 n16 c16,.int .i64 k17]:=by
  refine List.ext_getElem (by rw[hcl];rfl) fun j h1 h2=> ?_
  have hj:j<21:=by omega
  match j,hj with
  |0,_=>exact e0
  |1,_=>exact e1
  |2,_=>exact e2
  |3,_=>exact e3
  |4,_=>exact e4
  |5,_=>exact e5
  |6,_=>exact e6
  |7,_=>exact e7
  |8,_=>exact e8
  |9,_=>exact e9
  |10,_=>exact e10
  |11,_=>exact e11
  |12,_=>exact a12
  |13,_=>exact b12
  |14,_=>exact a13
  |15,_=>exact b13
  |16,_=>exact a14
  |17,_=>exact b14
  |18,_=>exact e15
  |19,_=>exact e16
  |20,_=>exact e17
  |q+21,hq=>exact absurd hq (by omega)
 refine⟨(⟨s0.data.toList,k1,b2,k3,k4,s5.data.toList,s6.data.toList,s7.data.toList,s8.data.toList,s9.data.toList,s10.data.toList,s11.data.toList,f12,f13,f14,x15,x16,k17⟩,⟨A15,n15,c15,A16,n16,c16⟩),?_,⟨r15,r16,m15⟩,l15,l16,⟨⟨u12,w12⟩,⟨u13,w13⟩,⟨u14,w14⟩,Zfv l1,Zfv l3,Zfv l4,Zfv l17⟩⟩;rw[hcs];simp[YY,ftA,S]
theorem JV{H:Type}{enc:TypeId×Value->H}{W:World}{base:Nat}{v:Value}{d:DataW H}{p:List MemPlace}(hv:Value.okWide Tryz.prog W .any base 22 v)(h:DataW.Trod enc Tryz.prog W 0 (fun _=>true) true 22 v d p):
 ∃A n c xs,v=.slice A n c/\n<=maxLen/\n<=c/\(A=none->c=0)/\Sl YY 21 W W.1.size A n xs/\∀x∈xs,FxI W x:=by
 obtain⟨a0,len,cap,rfl⟩:=okWide_slice Tryz.underlying22 hv
 obtain⟨fuel,hf⟩:=h
 exact VV Tryz.underlying22 ZaX (by omega) YO Zdk hf
theorem Zco{H:Type}{enc:TypeId×Value->H}{W:World}{base:Nat}{v:Value}{d:DataW H}{p:List MemPlace}(hv:Value.okWide Tryz.prog W .any base 23 v)(h:DataW.Trod enc Tryz.prog W 0 (fun _=>true) true 23 v d p):∃k:Int,v=.int .i64 k/\I64 k:=by
 obtain⟨k,rfl⟩:=okWide_int Tryz.underlying23 hv
 obtain⟨fuel,hf⟩:=h
 obtain⟨k',e,_,l⟩:=DataW.trod_int Tryz.underlying23 hf
 simp[Value.cells] at e
 subst e;exact⟨k,rfl,Zfv l⟩
theorem JW{P:Program}{W:World}{name dn:String}{d:DataW Unit}{g:Nat}{t:TypeId}{ms:Array (String×TypeId)}(hg:P.globalNamed name=some g)(hty:(P.globals[g]?).map (·.type)=some t)(hi:P.underlying t=some (.interface ms))
 (h:laidMet P [(name,.iface dn d)] W):∃u v,W.var? P name=some #[.iface u v]:=by
 obtain⟨ps,⟨g',t',cs,fuel,p,q,hg',ht',hvar,hd,_,_⟩,_⟩:=h
 obtain rfl:=Option.some.inj (hg.symm.trans hg');obtain rfl:=Option.some.inj (hty.symm.trans ht');obtain⟨f',u,v,hcs,_,_⟩:=iface_of_trod hi hd
 refine⟨u,v,?_⟩;rw[hvar]
 congr 1
 exact Array.ext' hcs
noncomputable def Yd(os:Os):World:=
 {World.doorLaid Tryz.prog 400 os with heap:=(World.doorLaid Tryz.prog 400 os).heap.modify 4 fun
  | .cells _ t frozen=>.cells (Pinned.utf8FirstZ.map fun(n:Nat)=>Value.int .u8 (n:Int)).toArray t frozen
  |o=>o}
theorem Zcp(os:Os)(args:Array Value):laidMet Tryz.prog Rows.exchangeBaseRow.laid ((Yd os).forCall (fun _ _=>0) ⟨#[],args,[]⟩).memory:=
 laidMet_of_run' 8 (by kernel_rfl) (by kernel_rfl)
theorem Jj{W:World}(h:laidMetH Tryz.prog Rows.exchangeBaseRow.laid W):Env W:=by
 have h0:laidMet Tryz.prog Rows.exchangeBaseRow.laid W:=h;have h1:=h0.filter (fun x=>x.1== "internal/strconv.uint64pow10");have e:Rows.exchangeBaseRow.laid.filter (fun x=>x.1== "internal/strconv.uint64pow10")=[("internal/strconv.uint64pow10",Lib.tabData .u64 Lib.pow10Tab)]:=by kernel_rfl
 rw[e] at h1;have h2:=h0.filter (fun x=>x.1== "strconv.ErrSyntax");have e2:Rows.exchangeBaseRow.laid.filter (fun x=>x.1== "strconv.ErrSyntax")=[("strconv.ErrSyntax",.iface "*errors.errorString" (.ptr (.agg [.lit (.string [105,110,118,97,108,105,100,32,115,121,110,116,97,120])])))]:=by kernel_rfl
 rw[e2] at h2;have h3:=h0.filter (fun x=>x.1== "strconv.ErrRange");have e3:Rows.exchangeBaseRow.laid.filter (fun x=>x.1== "strconv.ErrRange")=[("strconv.ErrRange",.iface "*errors.errorString" (.ptr (.agg [.lit (.string [118,97,108,117,101,32,111,117,116,32,111,102,32,114,97,110,103,101])])))]:=by kernel_rfl
 rw[e3] at h3;refine⟨?_,?_,?_⟩
 ·exact Lib.tabIs_of_head (g:=1) (t:=296) (e:=138) (n:=20) (by kernel_rfl) (by kernel_rfl) Tryz.underlying296 Tryz.underlying138 (by kernel_rfl) (by kernel_rfl) h1
 ·exact JW (g:=2) (t:=140) (by kernel_rfl) (by kernel_rfl) Tryz.underlying140 h2
 ·exact JW (g:=3) (t:=140) (by kernel_rfl) (by kernel_rfl) Tryz.underlying140 h3
end
section
open Go.ChangeShapes Go.WideShapes Go.ChangeAt Go.RowKit Go.Deep
theorem YR{H:Type}{enc:TypeId×Value->H}{W:World}{base:Nat}{v:Value}{d:DataW H}{p:List MemPlace}(hv:Value.okWide Tryz.prog W .any base 9 v)(h:DataW.Trod enc Tryz.prog W 0 (fun _=>true) true 9 v d p):
 ∃q:List UInt8,v=.string ⟨q.toArray⟩/\q.length<=maxLen:=by
 obtain⟨s,rfl⟩:=okWide_string Tryz.underlying9 hv
 obtain⟨fuel,hf⟩:=h
 obtain⟨s',e,_,l⟩:=DataW.trod_string Tryz.underlying9 hf
 simp[Value.cells] at e
 subst e;exact⟨s.data.toList,Zdj s,ZbA l⟩
end
namespace lawExchangePaths
open Go.ChangeShapes Go.WideShapes Go.ChangeAt Go.RowKit Go.Deep
def Walk:Prop:=∀(A0:Option Addr) (n0 c0:Nat) (xs0:List Fx) (s1:List UInt8) (s2:List UInt8) (k3:Int) (W:World),Env W->n0<=c0->(A0=none->c0=0)->Sl YY 21 W W.1.size A0 n0 xs0->n0<=maxLen->(∀x∈xs0,FxI W x)->s1.length<=maxLen->s2.length<=maxLen->I64 k3->Calls Tryz.prog 5 #[.slice A0 n0 c0,.string ⟨s1.toArray⟩,.string ⟨s2.toArray⟩,.int .i64 k3] W fun e w'=>e=.returned (.bool true)/\Below W.1.size W w'
theorem contract(hlaw:Walk)(H:Type)(enc:TypeId×Value->H)(W:World)(hpow:Env W)(base:Nat)(args:Array Value)(ds gs:List (DataW H))(before:List MemPlace)
 (hval:∀(j:Nat) t v,Tryz.f5.params[j]?=some t->args[j]?=some v->Value.okWide Tryz.prog W .any base t v)
 (hW:DataW.Whole enc Tryz.prog Tryz.f5.params.toList Rows.exchangePathsSpec.vars false W args.toList ds gs before):
 Calls Tryz.prog 5 args W fun e W'=>∃v,e=.returned v/\Rows.exchangePathsSpec.post enc Tryz.prog Tryz.f5 false true false false W args v W':=by
 have hW':=hW;obtain⟨p,q,hA0,hV,rfl,hfz,hnd⟩:=hW
 have hA:DataW.TrodAll enc Tryz.prog W 0 (fun _=>true) true Tryz.f5.params.toList args.toList ds p:=hA0;rw[Tryz.params5] at hA hval;obtain⟨v0,vs0,d0,ds0,p0,q0,hargs0,rfl,rfl,h0,r0⟩:=trodAll_cons hA
 obtain⟨v1,vs1,d1,ds1,p1,q1,hargs1,rfl,rfl,h1,r1⟩:=trodAll_cons r0
 obtain⟨v2,vs2,d2,ds2,p2,q2,hargs2,rfl,rfl,h2,r2⟩:=trodAll_cons r1
 obtain⟨v3,vs3,d3,ds3,p3,q3,hargs3,rfl,rfl,h3,r3⟩:=trodAll_cons r2
 obtain⟨rfl,rfl,rfl⟩:=trodAll_nil r3
 obtain rfl:args=#[v0,v1,v2,v3]:=by cases args;simp_all
 obtain⟨rfl,rfl⟩:=trodVars_none hV
 obtain⟨A0,n0,c0,xs0,rfl,hn0,hc0,hz0,hr0,hi0⟩:=JV (hval 0 22 v0 (by kernel_rfl) (by kernel_rfl)) h0
 obtain⟨s1,rfl,hl1⟩:=YR (hval 1 9 v1 (by kernel_rfl) (by kernel_rfl)) h1
 obtain⟨s2,rfl,hl2⟩:=YR (hval 2 9 v2 (by kernel_rfl) (by kernel_rfl)) h2
 obtain⟨k3,rfl,hk3⟩:=Zco (hval 3 23 v3 (by kernel_rfl) (by kernel_rfl)) h3
 refine(hlaw A0 n0 c0 xs0 s1 s2 k3 W hpow hc0 hz0 hr0 hn0 hi0 hl1 hl2 hk3).mono fun e W' ⟨he,hb⟩=> ?_
 subst he;refine⟨_,rfl,JU ZdS (fun t ht=> ?_) (tb:=4) (by kernel_rfl) Tryz.underlying4 rfl rfl hW' hb⟩;rw[Tryz.params5] at ht;have hall:([22,9,9,23].all fun t=>Tryz.prog.readableRec t&&decide (t<Tryz.prog.types.size))=true:=by kernel_rfl
 have:=List.all_eq_true.1 hall t (by simpa using ht)
 simpa using this
theorem reads(os:Os){H:Type}(enc:TypeId×Value->H):∃places,DataW.whole enc Tryz.prog ((Yd os).forCall (fun _ _=>0) ⟨#[],#[.slice none 0 0,.string ⟨#[]⟩,.string ⟨#[]⟩,.int .i64 0],[]⟩).memory Tryz.f5.params.toList Rows.exchangePathsSpec.vars false (#[Value.slice none 0 0,Value.string ⟨#[]⟩,Value.string ⟨#[]⟩,Value.int .i64 0]:Array Value).toList 8=some ([.nil,.lit (.string []),.lit (.string []),.lit (.int .i64 0)],[],places):=
 ⟨[],by kernel_rfl⟩
theorem lifted(hlaw:Walk)(os:Os)(started:os.Started)(H:Type)(enc:TypeId×Value->H)(F:Stop.Interp):
 ReturnsInHanded {} Tryz.checked os 5 .any ((OpenSpec.ofChange Rows.exchangePathsSpec).preRow enc Tryz.prog Tryz.f5 Rows.exchangePathsRow.domain false Rows.exchangePathsRow.laid) (((OpenSpec.ofChange Rows.exchangePathsSpec).at F).post enc Tryz.prog Tryz.f5 false true false false):=by
 obtain⟨places,hx⟩:=reads os enc
 refine returnsInHanded_of_row (C:=Tryz.checked) (s:=OpenSpec.ofChange Rows.exchangePathsSpec) own started (by kernel_rfl) Tryz.func5
  (witness_row_at (enc:=enc) (C:=Tryz.checked) false (Yd os) #[.slice none 0 0,.string ⟨#[]⟩,.string ⟨#[]⟩,.int .i64 0] rfl (by kernel_rfl) (by kernel_rfl) (by kernel_rfl)
    (OpenSpec.preRow_of_cond 8 hx (by kernel_rfl) (fun k hk=>by cases hk) (by kernel_rfl) (Zcp os _))) ?_
 intro W base args ds gs before hval hW _ _ _ hL _ _;exact contract hlaw H enc W (Jj hL) base args ds gs before hval hW
end lawExchangePaths
namespace lawExchangeTime
open Go.ChangeShapes Go.WideShapes Go.ChangeAt Go.RowKit Go.Deep
def Walk:Prop:=∀(A0:Option Addr) (n0 c0:Nat) (xs0:List Fx) (s1:List UInt8) (s2:List UInt8) (k3:Int) (W:World),Env W->n0<=c0->(A0=none->c0=0)->Sl YY 21 W W.1.size A0 n0 xs0->n0<=maxLen->(∀x∈xs0,FxI W x)->s1.length<=maxLen->s2.length<=maxLen->I64 k3->Calls Tryz.prog 6 #[.slice A0 n0 c0,.string ⟨s1.toArray⟩,.string ⟨s2.toArray⟩,.int .i64 k3] W fun e w'=>e=.returned (.bool true)/\Below W.1.size W w'
theorem contract(hlaw:Walk)(H:Type)(enc:TypeId×Value->H)(W:World)(hpow:Env W)(base:Nat)(args:Array Value)(ds gs:List (DataW H))(before:List MemPlace)
 (hval:∀(j:Nat) t v,Tryz.f6.params[j]?=some t->args[j]?=some v->Value.okWide Tryz.prog W .any base t v)
 (hW:DataW.Whole enc Tryz.prog Tryz.f6.params.toList Rows.exchangeTimeSpec.vars false W args.toList ds gs before):
 Calls Tryz.prog 6 args W fun e W'=>∃v,e=.returned v/\Rows.exchangeTimeSpec.post enc Tryz.prog Tryz.f6 false true false false W args v W':=by
 have hW':=hW;obtain⟨p,q,hA0,hV,rfl,hfz,hnd⟩:=hW
 have hA:DataW.TrodAll enc Tryz.prog W 0 (fun _=>true) true Tryz.f6.params.toList args.toList ds p:=hA0;rw[Tryz.params6] at hA hval;obtain⟨v0,vs0,d0,ds0,p0,q0,hargs0,rfl,rfl,h0,r0⟩:=trodAll_cons hA
 obtain⟨v1,vs1,d1,ds1,p1,q1,hargs1,rfl,rfl,h1,r1⟩:=trodAll_cons r0
 obtain⟨v2,vs2,d2,ds2,p2,q2,hargs2,rfl,rfl,h2,r2⟩:=trodAll_cons r1
 obtain⟨v3,vs3,d3,ds3,p3,q3,hargs3,rfl,rfl,h3,r3⟩:=trodAll_cons r2
 obtain⟨rfl,rfl,rfl⟩:=trodAll_nil r3
 obtain rfl:args=#[v0,v1,v2,v3]:=by cases args;simp_all
 obtain⟨rfl,rfl⟩:=trodVars_none hV
 obtain⟨A0,n0,c0,xs0,rfl,hn0,hc0,hz0,hr0,hi0⟩:=JV (hval 0 22 v0 (by kernel_rfl) (by kernel_rfl)) h0
 obtain⟨s1,rfl,hl1⟩:=YR (hval 1 9 v1 (by kernel_rfl) (by kernel_rfl)) h1
 obtain⟨s2,rfl,hl2⟩:=YR (hval 2 9 v2 (by kernel_rfl) (by kernel_rfl)) h2
 obtain⟨k3,rfl,hk3⟩:=Zco (hval 3 23 v3 (by kernel_rfl) (by kernel_rfl)) h3
 refine(hlaw A0 n0 c0 xs0 s1 s2 k3 W hpow hc0 hz0 hr0 hn0 hi0 hl1 hl2 hk3).mono fun e W' ⟨he,hb⟩=> ?_
 subst he;refine⟨_,rfl,JU ZdS (fun t ht=> ?_) (tb:=4) (by kernel_rfl) Tryz.underlying4 rfl rfl hW' hb⟩;rw[Tryz.params6] at ht;have hall:([22,9,9,23].all fun t=>Tryz.prog.readableRec t&&decide (t<Tryz.prog.types.size))=true:=by kernel_rfl
 have:=List.all_eq_true.1 hall t (by simpa using ht)
 simpa using this
theorem reads(os:Os){H:Type}(enc:TypeId×Value->H):∃places,DataW.whole enc Tryz.prog ((Yd os).forCall (fun _ _=>0) ⟨#[],#[.slice none 0 0,.string ⟨#[]⟩,.string ⟨#[]⟩,.int .i64 0],[]⟩).memory Tryz.f6.params.toList Rows.exchangeTimeSpec.vars false (#[Value.slice none 0 0,Value.string ⟨#[]⟩,Value.string ⟨#[]⟩,Value.int .i64 0]:Array Value).toList 8=some ([.nil,.lit (.string []),.lit (.string []),.lit (.int .i64 0)],[],places):=
 ⟨[],by kernel_rfl⟩
theorem lifted(hlaw:Walk)(os:Os)(started:os.Started)(H:Type)(enc:TypeId×Value->H)(F:Stop.Interp):
 ReturnsInHanded {} Tryz.checked os 6 .any ((OpenSpec.ofChange Rows.exchangeTimeSpec).preRow enc Tryz.prog Tryz.f6 Rows.exchangeTimeRow.domain false Rows.exchangeTimeRow.laid) (((OpenSpec.ofChange Rows.exchangeTimeSpec).at F).post enc Tryz.prog Tryz.f6 false true false false):=by
 obtain⟨places,hx⟩:=reads os enc
 refine returnsInHanded_of_row (C:=Tryz.checked) (s:=OpenSpec.ofChange Rows.exchangeTimeSpec) own started (by kernel_rfl) Tryz.func6
  (witness_row_at (enc:=enc) (C:=Tryz.checked) false (Yd os) #[.slice none 0 0,.string ⟨#[]⟩,.string ⟨#[]⟩,.int .i64 0] rfl (by kernel_rfl) (by kernel_rfl) (by kernel_rfl)
    (OpenSpec.preRow_of_cond 8 hx (by kernel_rfl) (fun k hk=>by cases hk) (by kernel_rfl) (Zcp os _))) ?_
 intro W base args ds gs before hval hW _ _ _ hL _ _;exact contract hlaw H enc W (Jj hL) base args ds gs before hval hW
end lawExchangeTime
end Go.Proofs.YtokjnjdbnabchaaGreatDoor
