/- Fr3, Fr4, Fr5. -/
import Derived.Test.YtokjnjdbnabchaaGreatDoorQGEp20
namespace Go.Proofs.YtokjnjdbnabchaaGreatDoor
open Go.RowKit Go.Shelf
section
structure Cx where
 w0:World
 B1:Nat
 B3:Nat
 bt:Nat
 cP:Array Value
 cL:Array Value
def Cst.val(x:Cx):Cst->Value
 | .of=>.func (.func 203) #[] #[]
 | .amt=>.func (.func 204) #[] #[.pointer (some ⟨x.B3,0,none⟩),.pointer (some ⟨x.B1,0,none⟩)]
 | .code=>.func (.func 205) #[] #[]
 | .P=>.func (.func 267) #[] x.cP
 | .L=>.func (.func 267) #[] x.cL
 | .tr=>.map (some x.bt)
def Fact(x:Cx)(own:Nat->Nat)(a:Act)(w:World):D->Prop
 | .mk j _=>∃b,Qo a j=.map (some b)/\own b=j/\x.w0.1.size<=b/\b<w.1.size
 | .ld d _ _ c=>Qo a d=c.val x
 | .mc d _ c=>Qo a d=c.val x
 | .mv d j=>Qo a d=Qo a j
 | .asg d j=>Qo a d=Qo a j
 | .sl d l=>∃q,Qo a d=.slice (some ⟨q,0,none⟩) l.length l.length/\w.heap[q]?=some (.cells (l.map (fun(y:Nat)=>Value.int .i64 (y:Int))).toArray 3 (0,0))
 | .cof d _ m j _ word cls more=>Qo a d=.agg (kB word cls (KRow.has ⟨cls,Xh j,more,false⟩) (Qo a m) false)
 | .cot d _ _ _ word cls more=>Qo a d=.agg (kB word cls (KRow.has ⟨cls,[(4,true,false),(5,false,false),(6,false,false)],more,false⟩) (.map (some x.bt)) false)
 | .cno d _ _ word cls more=>Qo a d=.agg (kB word cls (KRow.has ⟨cls,[],more,false⟩) (.map none) false)
 | .cam d _ word=>∃nb n,Qo a d=.agg (kB word 2 (KRow.has ⟨2,[(5,true,false)],[2],false⟩) (.map (some nb)) false)/\own nb=1000/\LimB w nb n [(5,true,false)]
 | .cco d _ y=>∃word cls p mv,Qo a y=.agg (kB word cls p mv false)/\Qo a d=.agg (kB word cls p mv true)
 | .cbt d=>LimV w (Qo a d) false true
 | .ins _ big _ src=>big=false->LimV w (Qo a src) (Yr src).1 (Yr src).2
structure Upd (own:Nat->Nat) (w w':World) (row:Option Nat):Prop where
 g:w.grownBy w' row
 r:∀b,row=some b->own b<1000/\∃n m,ImB w b n m
theorem Jk{w w':World}(g:w.grownBy w' none):Below w.1.size w w':=⟨g.os,g.tape,g.output,g.size,fun k hk=>g.block k hk (by simp)⟩
section
variable {x:Cx} {own own':Nat->Nat} {a a':Act} {w w':World} {row:Option Nat}
theorem Upd.lim(hu:Upd own w w' row){v:Value}{p q:Bool}(h:LimV w v p q):LimV w' v p q:=by
 cases row with
 |none=>exact h.here (Jk hu.g)
 |some b=>
  obtain⟨_,n,m,hm⟩:=hu.r b rfl
  exact h.grown hu.g hm.noCells
theorem Upd.limB(hu:Upd own w w' row){b n:Nat}{nums:List (Nat×Bool×Bool)}(h:LimB w b n nums)(ho:1000<=own b):LimB w' b n nums:=by
 cases row with
 |none=>exact h.here (Jk hu.g)
 |some r=>
  obtain⟨h1,n',m,hm⟩:=hu.r r rfl
  exact h.grown hm hu.g (fun e=>by subst e;omega)
theorem Upd.imB(hu:Upd own w w' row){b n:Nat}{m:Int->Option Value}(h:ImB w b n m)(hne:some b≠row):ImB w' b n m:=h.grown hu.g hne
theorem Upd.cells(hu:Upd own w w' row){q:Nat}{cs:Array Value}{T:TypeId}{f:Nat×Nat}(h:w.heap[q]?=some (.cells cs T f)):w'.heap[q]?=some (.cells cs T f):=by
 refine(hu.g.block q (Array.getElem?_eq_some_iff.1 h).1 (fun e=> ?_)).trans h;obtain⟨_,n,m,hm⟩:=hu.r q e.symm
 exact hm.noCells _ _ _ h
theorem Fact.keep{d:D}(h:Fact x own a w d)(hs:∀s∈d.slots,Qo a' s=Qo a s)(hu:Upd own w w' row)(ho:∀b,b<w.1.size->own' b=own b):Fact x own' a' w' d:=by
 cases d with
 |mk j big=>
  obtain⟨b,h1,h2,h3,h4⟩:=h
  exact⟨b,by rw[hs j (by simp[D.slots])];exact h1,by rw[ho b h4];exact h2,h3,Nat.lt_of_lt_of_le h4 hu.g.size⟩
 |ld d s T c=>show Qo a' d=_;rw[hs d (by simp[D.slots])];exact h
 |mc d s c=>show Qo a' d=_;rw[hs d (by simp[D.slots])];exact h
 |mv d j=>show Qo a' d=Qo a' j;rw[hs d (by simp[D.slots]),hs j (by simp[D.slots])];exact h
 |asg d j=>show Qo a' d=Qo a' j;rw[hs d (by simp[D.slots]),hs j (by simp[D.slots])];exact h
 |sl d l=>
  obtain⟨q,h1,h2⟩:=h
  exact⟨q,by rw[hs d (by simp[D.slots])];exact h1,hu.cells h2⟩
 |cof d f m j s word cls more=>show Qo a' d=.agg (kB _ _ _ (Qo a' m) _);rw[hs d (by simp[D.slots]),hs m (by simp[D.slots])];exact h
 |cot d f m s word cls more=>show Qo a' d=_;rw[hs d (by simp[D.slots])];exact h
 |cno d f s word cls more=>show Qo a' d=_;rw[hs d (by simp[D.slots])];exact h
 |cam d f word=>
  obtain⟨nb,n,h1,h2,h3⟩:=h
  exact⟨nb,n,by rw[hs d (by simp[D.slots])];exact h1,by rw[ho nb h3.lt];exact h2,hu.limB h3 (by omega)⟩
 |cco d f y=>
  obtain⟨word,cls,p,mv,h1,h2⟩:=h
  exact⟨word,cls,p,mv,by rw[hs y (by simp[D.slots])];exact h1,by rw[hs d (by simp[D.slots])];exact h2⟩
 |cbt d=>show LimV w' (Qo a' d) _ _;rw[hs d (by simp[D.slots])];exact hu.lim h
 |ins j big key src=>intro hb;rw[hs src (by simp[D.slots])];exact hu.lim (h hb)
end
def ZbL(l:Array Bool)(a:Act)(j:Nat)(k:Int):Option Value:=
 match (QN j).find? (fun y=>y.2.1==k) with
 |some y=>if l.getD y.1 false=true then some (Qo a y.2.2) else none
 |none=>none
def ZeM(l:Array Bool)(j:Nat):Nat:=(QN j).countP (fun y=>l.getD y.1 false)
def Zd0(x:Cx)(own:Nat->Nat)(l:Array Bool)(a:Act)(w:World)(j:Nat):Prop:=
 ∃b n m,Qo a j=.map (some b)/\own b=j/\x.w0.1.size<=b/\n<=ZeM l j/\ImB w b n m/\∀k,m k=ZbL l a j k
structure RgI (x:Cx) (own:Nat->Nat) (l:Array Bool) (a:Act) (w:World):Prop where
 sz:l.size=124
 ts:a.tmps.size=105
 df:a.defers=[]
 k:Kp x.w0 [(x.B3,#[.func (.func 203) #[] #[]],232),(x.B1,#[.func (.func 267) #[] x.cP],230)] w
 p:LimV w (.func (.func 267) #[] x.cP) true false
 q:LimV w (.func (.func 267) #[] x.cL) false false
 t:LimB w x.bt 3 [(4,true,false),(5,false,false),(6,false,false)]
 ot:own x.bt=2000
 i1:Qo a 1=.pointer (some ⟨x.B1,0,none⟩)
 i2:Qo a 2=Cst.L.val x
 i3:Qo a 3=.pointer (some ⟨x.B3,0,none⟩)
 i4:Qo a 4=Cst.amt.val x
 i5:Qo a 5=Cst.code.val x
 i6:Qo a 6=Cst.tr.val x
 cl:∀i n,Xu i n=true->l.getD i false=true->l.getD n false=true
 f:∀i d,Qy[i]?=some d->l.getD i false=true->Fact x own a w d
 c:∀i j big,Qy[i]?=some (.mk j big)->l.getD i false=true->Zd0 x own l a w j
theorem QI{i:Nat}{d:D}(h:Qy[i]?=some d):i<124:=by have:=(List.getElem?_eq_some_iff.1 h).1;rwa [Zcz] at this
theorem Qt{i:Nat}{o:Oper}{d:D}(ho:Xm[i]?=some o)(hd:Qy[i]?=some d):o.dst=d.dst/\o.op=d.op/\o.guard=none:=by
 have h:=congrArg (fun L:List (Option Tmp×Op×Option (Nat×Bool))=>L[i]?) ZfY;simp only[List.getElem?_map,Array.getElem?_toList,ho,hd,Option.map_some,Option.some.injEq,Prod.mk.injEq] at h;exact h
theorem Zd1{i:Nat}{o:Oper}(ho:Xm[i]?=some o):∃d,Qy[i]?=some d:=by
 have hi:=(Array.getElem?_eq_some_iff.1 ho).1;rw[Yg] at hi;exact⟨Qy[i]'(by rw[Zcz];exact hi),List.getElem?_eq_getElem _⟩
theorem Zf1{i n:Nat}{o:Oper}(ho:Xm[i]?=some o)(h:Xu i n=true):∃e∈o.after,e.on=n:=by
 unfold Xu at h;rw[ho] at h;simp only[<-Array.any_toList,List.any_eq_true] at h;obtain⟨e,he,hn⟩:=h
 exact⟨e,by simpa using he,by simpa using hn⟩
theorem Za5{i:Nat}{o:Oper}(ho:Xm[i]?=some o){e:Edge}(he:e∈o.after):e.on<i/\Region.binds .any e=true:=by
 have hi:=(Array.getElem?_eq_some_iff.1 ho).1;rw[Yg] at hi;have h:=List.all_eq_true.1 ZeL i (List.mem_range.2 hi);rw[ho] at h;simp only[Array.all_eq_true_iff_forall_mem,Bool.and_eq_true,decide_eq_true_eq] at h;exact h e he
theorem QO{i:Nat}{d:D}(hd:Qy[i]?=some d):chk i=true:=List.all_eq_true.1 ZfZ i (List.mem_range.2 (QI hd))
theorem Ja{i:Nat}{d:D}(h:YH i d=true):∃n,Qy[n]?=some d/\Xu i n=true:=by
 unfold YH at h;obtain⟨n,_,hn⟩:=List.any_eq_true.1 h
 simp only[Bool.and_eq_true,decide_eq_true_eq] at hn;exact⟨n,hn.1,hn.2⟩
theorem Zd2{k i s:Nat}{e d:D}(hk:Qy[k]?=some e)(hd:Qy[i]?=some d)(hs:s∈e.slots)(h:d.dst=some s):i=k\/Xu k i=true:=by
 have h1:=List.all_eq_true.1 Zdr k (List.mem_range.2 (QI hk));rw[hk] at h1;have h2:=List.all_eq_true.1 (List.all_eq_true.1 h1 s hs) i (List.mem_range.2 (QI hd));rw[hd] at h2;simpa[h] using h2
theorem Xx{i s:Nat}{d:D}(hd:Qy[i]?=some d)(h:d.dst=some s):s<105/\s≠1/\s≠2/\s≠3/\s≠4/\s≠5/\s≠6:=by
 have h1:=List.all_eq_true.1 Zf0 d (List.mem_of_getElem? hd);rw[h] at h1;simp at h1;omega
theorem QS{a:Act}{t:Option Nat}{v:Value}{s:Nat}(h:t≠some s):Qo (a.put t v) s=Qo a s:=by
 cases t with
 |none=>rfl
 |some t=>
  have:t≠s:=fun e=>h (by rw[e])
  show(a.tmps.setIfInBounds t v).getD s undef=a.tmps.getD s undef
  rw[Array.getD_eq_getD_getElem?,Array.getD_eq_getD_getElem?,Array.getElem?_setIfInBounds_ne this]
theorem Ql{a:Act}{v:Value}{s:Nat}(h:s<a.tmps.size):Qo (a.put (some s) v) s=v:=by
 show(a.tmps.setIfInBounds s v).getD s undef=v
 rw[Array.getD_eq_getD_getElem?,Array.getElem?_setIfInBounds_self_of_lt h];rfl
theorem XH{l:Array Bool}{i:Nat}(h:i<l.size):(l.setIfInBounds i true).getD i false=true:=by
 rw[Array.getD_eq_getD_getElem?,Array.getElem?_setIfInBounds_self_of_lt h];rfl
theorem Qn{l:Array Bool}{i k:Nat}(h:k≠i):(l.setIfInBounds i true).getD k false=l.getD k false:=by
 rw[Array.getD_eq_getD_getElem?,Array.getD_eq_getD_getElem?,Array.getElem?_setIfInBounds_ne (Ne.symm h)]
end
section
theorem Zhz{l:Array Bool}{i:Nat}(hs:l.size=124)(hi:i<124)(h:l.getD i true=false):l.getD i false=false:=by
 rw[Array.getD_eq_getD_getElem?,Array.getElem?_eq_getElem (by omega)] at h ⊢;simpa using h
theorem Zf2{l:Array Bool}{i:Nat}(hi:i<l.size)(j:Nat):ZeM l j<=ZeM (l.setIfInBounds i true) j:=by
 unfold ZeM;refine List.countP_mono_left fun y _ hy=> ?_
 by_cases e:y.1=i
 ·rw[e];exact XH hi
 ·rw[Qn e];exact hy
theorem Za6{α:Type}{p q:α->Bool}:∀{L:List α} {y:α},y∈L->(∀z∈L,p z=true->q z=true)->p y=false->q y=true->L.countP p+1<=L.countP q
 |z::L,y,hy,hpq,h1,h2=>by
  rw[List.countP_cons,List.countP_cons];have hm:L.countP p<=L.countP q:=List.countP_mono_left fun a ha=>hpq a (List.mem_cons_of_mem _ ha)
  rcases List.mem_cons.1 hy with rfl|hy
  ·rw[h1,h2];simp;omega
  ·have:=Za6 hy (fun a ha=>hpq a (List.mem_cons_of_mem _ ha)) h1 h2
   have hz:=hpq z List.mem_cons_self
   cases hpz:p z
   ·simp;omega
   ·rw[hz hpz];simp;omega
section
variable {x:Cx} {own own':Nat->Nat} {l:Array Bool} {a:Act} {w w':World} {row:Option Nat} {i:Nat} {o:Oper} {d:D} {v:Value}
theorem RgI.keepSv(h:RgI x own l a w)(ho:Xm[i]?=some o)(hd:Qy[i]?=some d)(hl:l.getD i false=false)(v:Value){k:Nat}{e:D}(hk:Qy[k]?=some e)(hlk:l.getD k false=true):∀s∈e.slots,Qo (a.put o.dst v) s=Qo a s:=fun s hs=>by
 refine QS fun hds=> ?_
 rw[(Qt ho hd).1] at hds
 rcases Zd2 hk hd hs hds with rfl|hdp
 ·rw[hl] at hlk;cases hlk
 ·have:=h.cl k i hdp hlk
  rw[hl] at this;cases this
theorem RgI.next(h:RgI x own l a w)(ho:Xm[i]?=some o)(hd:Qy[i]?=some d)(hl:l.getD i false=false)(hdep:∀n,Xu i n=true->l.getD n false=true)(hu:Upd own w w' row)(hrow:∀b,row=some b->∃j big key src,d=.ins j big key src/\own b=j)
 (hoo:∀b,b<w.1.size->own' b=own b) (hk:Kp x.w0 [(x.B3,#[.func (.func 203) #[] #[]],232),(x.B1,#[.func (.func 267) #[] x.cP],230)] w') (hf:Fact x own' (a.put o.dst v) w' d)
 (hc:∀j,((∃big,d=.mk j big)\/∃big key src,d=.ins j big key src)->Zd0 x own' (l.setIfInBounds i true) (a.put o.dst v) w' j):RgI x own' (l.setIfInBounds i true) (a.put o.dst v) w':=by
 have hi:i<l.size:=by rw[h.sz];exact QI hd
 have hod:=(Qt ho hd).1
 have hdst:∀s,s=1\/s=2\/s=3\/s=4\/s=5\/s=6->Qo (a.put o.dst v) s=Qo a s:=fun s hs=>QS fun e=>by
  rw[hod] at e;have:=Xx hd e
  omega
 refine⟨by simp[h.sz],?_,?_,hk,hu.lim h.p,hu.lim h.q,hu.limB h.t (by rw[h.ot];omega),by rw[hoo _ h.t.lt,h.ot],by rw[hdst 1 (by omega)];exact h.i1,by rw[hdst 2 (by omega)];exact h.i2,by rw[hdst 3 (by omega)];exact h.i3,by rw[hdst 4 (by omega)];exact h.i4,by rw[hdst 5 (by omega)];exact h.i5,by rw[hdst 6 (by omega)];exact h.i6,?_,?_,?_⟩
 ·have:=h.ts
  unfold Act.put
  cases o.dst<;>simpa using this
 ·have:=h.df
  unfold Act.put
  cases o.dst<;>simpa using this
 ·intro i' n hin hli
  by_cases en:n=i
  ·rw[en];exact XH hi
  ·rw[Qn en]
   by_cases e:i'=i
   ·subst e;exact hdep n hin
   ·rw[Qn e] at hli;exact h.cl i' n hin hli
 ·intro i' d' hd' hli
  by_cases e:i'=i
  ·subst e;rw[hd] at hd';injection hd' with hd'
   subst hd'
   exact hf
  ·rw[Qn e] at hli;exact(h.f i' d' hd' hli).keep (h.keepSv ho hd hl v hd' hli) hu hoo
 ·intro i' j big hd' hli
  by_cases hcs:(∃big,d=.mk j big)\/∃big key src,d=.ins j big key src
  ·exact hc j hcs
  ·have e:i'≠i:=fun e=>by
    subst e;rw[hd] at hd';injection hd' with hd'
    exact hcs (.inl ⟨big,hd'⟩)
   rw[Qn e] at hli;obtain⟨b,n,m,c1,c2,c3,c4,c5,c6⟩:=h.c i' j big hd' hli
   refine⟨b,n,m,by rw[h.keepSv ho hd hl v hd' hli j (by simp[D.slots])];exact c1,by rw[hoo b c5.lt];exact c2,c3,Nat.le_trans c4 (Zf2 hi j),hu.imB c5 (fun e2=> ?_),fun k=> ?_⟩
   ·obtain⟨j0,b0,key,src,e3,e4⟩:=hrow b e2.symm
    exact hcs (.inr ⟨b0,key,src,by rw[e3,<-e4,c2]⟩)
   ·rw[c6 k];unfold ZbL
    cases hfi:(QN j).find? (fun y=>y.2.1==k) with
    |none=>rfl
    |some y=>
     have hm:=List.mem_of_find?_eq_some hfi;have hck:=QO hd';unfold chk at hck;rw[hd'] at hck;simp only[Bool.and_eq_true,List.all_eq_true,decide_eq_true_eq] at hck;obtain⟨b0,_,hdy⟩:=hck.2 y hm
     have ey:y.1≠i:=fun e2=>by
      rw[e2,hd] at hdy;injection hdy with hdy;exact hcs (.inr ⟨_,_,_,hdy⟩)
     simp only;rw[Qn ey]
     by_cases hly:l.getD y.1 false=true
     ·rw[if_pos hly,if_pos hly,h.keepSv ho hd hl v hdy hly y.2.2 (by simp[D.slots])]
     ·rw[if_neg hly,if_neg hly]
theorem RgI.plain(h:RgI x own l a w)(ho:Xm[i]?=some o)(hd:Qy[i]?=some d)(hl:l.getD i false=false)(hdep:∀n,Xu i n=true->l.getD n false=true)(hb:Below w.1.size w w')(hoo:∀b,b<w.1.size->own' b=own b)
 (hnm:(∀j big,d≠ .mk j big)/\∀j big key src,d≠ .ins j big key src) (hf:Fact x own' (a.put o.dst v) w' d):RgI x own' (l.setIfInBounds i true) (a.put o.dst v) w':=
 h.next ho hd hl hdep (row:=none) ⟨⟨hb.os,hb.tape,hb.output,hb.size,fun k hk _=>hb.block k hk⟩,fun b e=>by cases e⟩ (fun b e=>by cases e) hoo (h.k.here hb) hf (fun j hj=>by
   rcases hj with ⟨b,e⟩|⟨b,k,s,e⟩
   ·exact absurd e (hnm.1 j b)
   ·exact absurd e (hnm.2 j b k s))
end
end
section
def D.mapOf:D->Nat
 | .mk j _=>j
 | .ins j _ _ _=>j
 |_=>0
section
variable {x:Cx} {own:Nat->Nat} {l:Array Bool} {a:Act} {w:World} {i:Nat} {o:Oper} {Q:Exit->Act->World->Prop}
def Xn(x:Cx)(l:Array Bool)(i:Nat)(a':Act)(w':World):Prop:=∃own,RgI x own (l.setIfInBounds i true) a' w'
theorem RgI.fact(h:RgI x own l a w)(hdep:∀n,Xu i n=true->l.getD n false=true){e:D}(ha:YH i e=true):Fact x own a w e:=by
 obtain⟨n,h1,h2⟩:=Ja ha
 exact h.f n e h1 (hdep n h2)
theorem ZhA{j:Nat}{big:Bool}(h:RgI x own l a w)(ho:Xm[i]?=some o)(hd:Qy[i]?=some (.mk j big))(hl:l.getD i false=false)(hdep:∀n,Xu i n=true->l.getD n false=true):o.wp Tryz.prog a w (Xn x l i) Q:=by
 obtain⟨e1,e2,e3⟩:=Qt ho hd
 have hj:j<a.tmps.size:=by rw[h.ts];exact(Xx hd rfl).1
 have e2':o.op=.makeMap (if big then 184 else 180) none:=e2;refine ZiP e2' ?_;refine⟨fun b=>if b=w.1.size then j else own b,?_⟩;have hsv:Qo (a.put o.dst (.map (some w.1.size))) j=.map (some w.1.size):=by rw[e1];exact Ql hj
 refine h.next ho hd hl hdep (row:=none) ⟨World.grownBy_alloc w _ none,fun b e=>by cases e⟩ (fun b e=>by cases e) (fun b hb=>if_neg (by omega)) (h.k.alloc _) ⟨w.1.size,hsv,if_pos rfl,h.k.bl.size,by simp⟩ (fun j' hj'=> ?_)
 have ej:j'=j:=by
  rcases hj' with ⟨b,e⟩|⟨b,k,s,e⟩
  ·exact(congrArg D.mapOf e).symm
  ·cases e
 subst ej;refine⟨w.1.size,0,fun _=>none,hsv,if_pos rfl,h.k.bl.size,Nat.zero_le _,ZdW w,fun k=> ?_⟩;unfold ZbL
 cases hfi:(QN j').find? (fun y=>y.2.1==k) with
 |none=>rfl
 |some y=>
  have hm:=List.mem_of_find?_eq_some hfi;have hck:=QO hd;unfold chk at hck;rw[hd] at hck;simp only[Bool.and_eq_true,List.all_eq_true,decide_eq_true_eq] at hck;obtain⟨b0,_,hdy⟩:=hck.2 y hm
  have ey:y.1≠i:=fun e=>by rw[e,hd] at hdy;cases hdy
  simp only;rw[Qn ey]
  by_cases hly:l.getD y.1 false=true
  ·exfalso
   have hcy:=QO hdy;unfold chk at hcy;rw[hdy] at hcy;simp only[Bool.and_eq_true] at hcy;obtain⟨n,hn1,hn2⟩:=Ja hcy.1.1.1.1.1
   have hln:=h.cl y.1 n hn2 hly
   rcases Zd2 hn1 hd (s:=j') (by simp[D.slots]) rfl with rfl|hdp
   ·rw[hl] at hln;cases hln
   ·have:=h.cl n i hdp hln
    rw[hl] at this;cases this
  ·rw[if_neg hly]
theorem ZhB{d s T:Nat}{c:Cst}(h:RgI x own l a w)(ho:Xm[i]?=some o)(hd:Qy[i]?=some (.ld d s T c))(hl:l.getD i false=false)(hdep:∀n,Xu i n=true->l.getD n false=true):o.wp Tryz.prog a w (Xn x l i) Q:=by
 obtain⟨e1,e2,e3⟩:=Qt ho hd
 have hj:d<a.tmps.size:=by rw[h.ts];exact(Xx hd rfl).1
 have hck:=QO hd;unfold chk at hck;rw[hd] at hck;simp only[decide_eq_true_eq] at hck
 rcases hck with ⟨rfl,rfl,rfl⟩|⟨rfl,rfl,rfl⟩
 ·exact Zh2 (.inl rfl) e2 h.i3 (h.k.c 0 0 rfl rfl) ⟨own,h.plain ho hd hl hdep (Below.refl _ _) (fun _ _=>rfl) ⟨(fun _ _ e=>by cases e),(fun _ _ _ _ e=>by cases e)⟩ (by rw[e1];exact Ql hj)⟩
 ·exact Zh2 (.inr rfl) e2 h.i1 (h.k.c 1 0 rfl rfl) ⟨own,h.plain ho hd hl hdep (Below.refl _ _) (fun _ _=>rfl) ⟨(fun _ _ e=>by cases e),(fun _ _ _ _ e=>by cases e)⟩ (by rw[e1];exact Ql hj)⟩
theorem ZhC{d s:Nat}{c:Cst}(h:RgI x own l a w)(ho:Xm[i]?=some o)(hd:Qy[i]?=some (.mc d s c))(hl:l.getD i false=false)(hdep:∀n,Xu i n=true->l.getD n false=true):o.wp Tryz.prog a w (Xn x l i) Q:=by
 obtain⟨e1,e2,e3⟩:=Qt ho hd
 have hj:d<a.tmps.size:=by rw[h.ts];exact(Xx hd rfl).1
 have hck:=QO hd;unfold chk at hck;rw[hd] at hck;simp only[decide_eq_true_eq] at hck
 have hv:Qo a s=c.val x:=by
  rcases hck with ⟨rfl,rfl⟩|⟨rfl,rfl⟩|⟨rfl,rfl⟩|⟨rfl,rfl⟩
  ·exact h.i2
  ·exact h.i4
  ·exact h.i5
  ·exact h.i6
 exact ZcA (.inl e2) ⟨own,h.plain ho hd hl hdep (Below.refl _ _) (fun _ _=>rfl) ⟨(fun _ _ e=>by cases e),(fun _ _ _ _ e=>by cases e)⟩ (by rw[e1];exact(Ql hj).trans hv)⟩
theorem Zd3{d j:Nat}(h:RgI x own l a w)(ho:Xm[i]?=some o)(hd:Qy[i]?=some (.mv d j)\/Qy[i]?=some (.asg d j))(hl:l.getD i false=false)(hdep:∀n,Xu i n=true->l.getD n false=true)(hne:d≠j):o.wp Tryz.prog a w (Xn x l i) Q:=by
 have hf:∀e,Qy[i]?=some e->e.dst=some d->Qo (a.put o.dst (Qo a j)) d=Qo (a.put o.dst (Qo a j)) j:=fun e hd he=>by
  have e1:=(Qt ho hd).1;rw[e1,he,Ql (by rw[h.ts];exact(Xx hd he).1),QS (by intro e;injection e with e;exact hne e)]
 rcases hd with hd|hd
 ·exact ZcA (.inl (Qt ho hd).2.1) ⟨own,h.plain ho hd hl hdep (Below.refl _ _) (fun _ _=>rfl) ⟨(fun _ _ e=>by cases e),(fun _ _ _ _ e=>by cases e)⟩ (hf _ hd rfl)⟩
 ·exact ZcA (.inr (Qt ho hd).2.1) ⟨own,h.plain ho hd hl hdep (Below.refl _ _) (fun _ _=>rfl) ⟨(fun _ _ e=>by cases e),(fun _ _ _ _ e=>by cases e)⟩ (hf _ hd rfl)⟩
theorem ZhD{d:Nat}{L:List Nat}(h:RgI x own l a w)(ho:Xm[i]?=some o)(hd:Qy[i]?=some (.sl d L))(hl:l.getD i false=false)(hdep:∀n,Xu i n=true->l.getD n false=true):o.wp Tryz.prog a w (Xn x l i) Q:=by
 obtain⟨e1,e2,e3⟩:=Qt ho hd
 have hj:d<a.tmps.size:=by rw[h.ts];exact(Xx hd rfl).1
 have hck:=QO hd;unfold chk at hck;rw[hd] at hck;simp only[decide_eq_true_eq] at hck;refine ZiQ hck e2 ⟨own,h.plain ho hd hl hdep ((Below.refl _ _).alloc (Nat.le_refl _) _) (fun _ _=>rfl) ⟨(fun _ _ e=>by cases e),(fun _ _ _ _ e=>by cases e)⟩ ?_⟩;exact⟨w.1.size,by rw[e1];exact Ql hj,heap_alloc_new w _⟩
theorem Zf3{j src:Nat}{big:Bool}{key:Int}(h:RgI x own l a w)(ho:Xm[i]?=some o)(hd:Qy[i]?=some (.ins j big key src))(hl:l.getD i false=false)(hdep:∀n,Xu i n=true->l.getD n false=true):o.wp Tryz.prog a w (Xn x l i) Q:=by
 obtain⟨e1,e2,e3⟩:=Qt ho hd
 have hi:i<l.size:=by rw[h.sz];exact QI hd
 have hck:=QO hd;unfold chk at hck;rw[hd] at hck;simp only[Bool.and_eq_true,decide_eq_true_eq] at hck;obtain⟨⟨⟨⟨⟨k1,k2⟩,k3⟩,k4⟩,k5⟩,k6⟩:=hck
 obtain⟨n0,hn1,hn2⟩:=Ja k1
 obtain⟨b,n,m,c1,c2,c3,c4,c5,c6⟩:=h.c n0 j big hn1 (hdep n0 hn2)
 have hn:n<100:=by
  have h1:ZeM l j<=(QN j).length:=List.countP_le_length;omega
 have hput:∃w',(Instr.mapUpdate (if big then 184 else 180) (.map (some b)) (.int .i64 key) (Qo a src)).run Tryz.prog w=.ok () w'/\ImB w' b (n+1) (fun k=>if k=key then some (Qo a src) else m k)/\w.grownBy w' (some b):=by
  cases big
  ·exact c5.put (t:=180) Tryz.underlying180 (by unfold maxLen;omega) k5.1 k5.2 _
  ·exact c5.put (t:=184) Tryz.underlying184 (by unfold maxLen;omega) k5.1 k5.2 _
 obtain⟨w',hr,hm',hg⟩:=hput
 have hu:Upd own w w' (some b):=⟨hg,fun b' e=>by injection e with e;subst e;exact⟨by rw[c2];exact k3,n,m,c5⟩⟩;have hsv:∀s,Qo (a.put o.dst undef) s=Qo a s:=fun s=>QS (by rw[e1];simp[D.dst])
 have hmem:=List.mem_of_find?_eq_some k2;refine Zip e2 c1 hr ⟨own,h.next ho hd hl hdep hu (fun b' e=>by injection e with e;subst e;exact⟨j,big,key,src,rfl,c2⟩) (fun _ _=>rfl) (h.k.growM c5 hg c3) ?_ (fun j' hj'=> ?_)⟩
 ·intro hb;rw[hsv];rw[hb,Bool.false_or] at k4;simp only[Bool.or_eq_true,Bool.and_eq_true,decide_eq_true_eq] at k4
  rcases k4 with (⟨ha,e⟩|⟨ha,e⟩)|⟨ha,e⟩
  ·have hf:Qo a src=_:=h.fact hdep ha;rw[hf,e];exact hu.lim h.p
  ·have hf:Qo a src=_:=h.fact hdep ha;rw[hf,e];exact hu.lim h.q
  ·have hf:LimV w (Qo a src) false true:=h.fact hdep ha;rw[e];exact hu.lim hf
 ·have ej:j'=j:=by
   rcases hj' with ⟨b,e⟩|⟨b,k,s,e⟩
   ·cases e
   ·exact(congrArg D.mapOf e).symm
  subst ej;refine⟨b,n+1,_,by rw[hsv];exact c1,c2,c3,?_,hm',fun k=> ?_⟩
  ·refine Nat.le_trans (Nat.succ_le_succ c4) ?_;unfold ZeM;refine Za6 hmem (fun z _ hz=> ?_) hl (XH hi)
   by_cases e:z.1=i
   ·rw[e];exact XH hi
   ·rw[Qn e];exact hz
  ·by_cases ek:k=key
   ·subst ek;unfold ZbL;rw[k2];simp only;rw[XH hi,hsv];simp
   ·rw[if_neg ek,c6 k];unfold ZbL
    cases hfi:(QN j').find? (fun y=>y.2.1==k) with
    |none=>rfl
    |some y=>
     have hm:=List.mem_of_find?_eq_some hfi;have hyk:y.2.1=k:=by have:=List.find?_some hfi;simpa using this
     have hcm:=QO hn1;unfold chk at hcm;rw[hn1] at hcm;simp only[Bool.and_eq_true,List.all_eq_true,decide_eq_true_eq] at hcm;obtain⟨b0,_,hdy⟩:=hcm.2 y hm
     have ey:y.1≠i:=fun e=>by
      rw[e,hd] at hdy;injection hdy with hdy;injection hdy with _ _ e4 _;exact ek (by rw[<-hyk,<-e4])
     simp only;rw[Qn ey,hsv]
end
end
end Go.Proofs.YtokjnjdbnabchaaGreatDoor
