/- Fr6, Fs. -/
import Derived.Test.YtokjnjdbnabchaaGreatDoorQGEp21
set_option maxRecDepth 100000
set_option maxHeartbeats 16000000
namespace Go.Proofs.YtokjnjdbnabchaaGreatDoor
open Go.Lib renaming hid→jq
open Go.RowKit Go.Shelf
section
section
variable {x:Cx} {own:Nat->Nat} {l:Array Bool} {a:Act} {w:World} {i:Nat} {o:Oper} {Q:Exit->Act->World->Prop}
theorem Xo(v:Value):a.eval (.const v)=v:=rfl
theorem Za7(f:FuncId):a.eval (.func f)=.func (.func f) #[] #[]:=rfl
theorem Za8{j:Nat}(h:(QN j).map (fun x=>x.2.1)=(Xh j).map (fun x=>(x.1:Int)))(k:Int):(Xh j).find? (fun y=>(y.1:Int)==k)=((QN j).find? (fun y=>y.2.1==k)).map (fun y=>(y.2.1.toNat,Yr y.2.2)):=by
 unfold Xh at*
 rw[List.map_map,List.map_inj_left] at h;rw[List.find?_map]
 congr 1
 generalize QN j=L at h ⊢
 induction L with
 |nil=>rfl
 |cons y L ih=>
  have h1:y.2.1=((y.2.1.toNat:Nat):Int):=h y List.mem_cons_self;rw[List.find?_cons,List.find?_cons,ih fun z hz=>h z (List.mem_cons_of_mem _ hz)];simp only[Function.comp];rw[<-h1]
theorem Zai{q:Nat}{L:List Nat}(h:w.heap[q]?=some (.cells (L.map (fun(y:Nat)=>Value.int .i64 (y:Int))).toArray 3 (0,0))):Sl I1 1 w w.1.size (some ⟨q,0,none⟩) L.length L:=by
 refine⟨rfl,fun _=>⟨q,0,rfl,(Array.getElem?_eq_some_iff.1 h).1,fun k y hy j u hj=> ?_⟩⟩;have hj0:j=0:=by have:=(List.getElem?_eq_some_iff.1 hj).1;rw[ZfP] at this;omega
 subst hj0;refine(cell_of_row w q _ _ 3 (0,0) h).trans ?_;simp only[I1,List.getElem?_cons_zero,Option.some.injEq] at hj;subst hj;simp[hy]
theorem Zf4{d f m j s:Nat}{word:List UInt8}{cls:Int}{more:List Nat}(h:RgI x own l a w)(ho:Xm[i]?=some o)(hd:Qy[i]?=some (.cof d f m j s word cls more))(hl:l.getD i false=false)(hdep:∀n,Xu i n=true->l.getD n false=true)(hdm:d≠m):o.wp Tryz.prog a w (Xn x l i) Q:=by
 obtain⟨e1,e2,e3⟩:=Qt ho hd
 have hj:d<a.tmps.size:=by rw[h.ts];exact(Xx hd rfl).1
 have hck:=QO hd;unfold chk at hck;rw[hd] at hck;simp only[Bool.and_eq_true,decide_eq_true_eq,List.all_eq_true,List.any_eq_true] at hck;obtain⟨⟨⟨⟨⟨⟨⟨k1,k2⟩,k3⟩,k4⟩,k5⟩,k6⟩,k7⟩,k8⟩:=hck
 obtain⟨n1,_,⟨⟨hmv,hd1⟩,hin⟩,hmk⟩:=k3
 have hf:Qo a f=.func (.func 203) #[] #[]:=h.fact hdep k1;obtain⟨q,hs1,hs2⟩:Fact x own a w (.sl s more):=h.fact hdep k2
 have hl1:=hdep n1 hd1;have hmj:Qo a m=Qo a j:=h.f n1 _ hmv hl1;obtain⟨n2,hn2,hd2⟩:=Ja hmk
 obtain⟨b,nn,mm,c1,c2,c3,c4,c5,c6⟩:=h.c n2 j false hn2 (h.cl n1 n2 hd2 hl1)
 have hlim:LimM w (Qo a m) (Xh j):=by
  rw[hmj,c1];refine .inr ⟨b,nn,rfl,mm,c5,fun k=> ?_⟩;have hfm:(Xh j).find? (fun y=>(y.1:Int)==k)=((QN j).find? (fun y=>y.2.1==k)).map (fun y=>(y.2.1.toNat,Yr y.2.2)):=Za8 k8 k;rw[hfm,c6 k];unfold ZbL
  cases hfi:(QN j).find? (fun y=>y.2.1==k) with
  |none=>rfl
  |some y=>
   have hm:=List.mem_of_find?_eq_some hfi;have hly:l.getD y.1 false=true:=h.cl n1 y.1 (hin y hm) hl1;have hcm:=QO hn2;unfold chk at hcm;rw[hn2] at hcm;simp only[Bool.and_eq_true,List.all_eq_true,decide_eq_true_eq] at hcm;obtain⟨b0,hb0,hdy⟩:=hcm.2 y hm
   simp only[Option.map_some];rw[if_pos hly];have hfc:b0=false->LimV w (Qo a y.2.2) (Yr y.2.2).1 (Yr y.2.2).2:=h.f y.1 _ hdy hly;exact⟨_,rfl,hfc (by rw[hb0];exact k7)⟩
 have e2':o.op=.call {callee:=.value (.tmp f),args:=#[.const (.string ⟨word.toArray⟩),.const (.int .i64 cls),.tmp m,.tmp s],argTypes:=#[9,3,180,127]}:=e2;refine Yo (f:=203) (args:=#[.string ⟨word.toArray⟩,.int .i64 cls,Qo a m,Qo a s]) e2' (fun W=> ?_) (R:=fun e w'=>e=.returned (.agg (kB word cls (KRow.has ⟨cls,Xh j,more,false⟩) (Qo a m) false))/\Below w.1.size w w') ?_ ?_
 ·have en:∀args w,(callFunc 203 args).run Tryz.prog w=.ok (.enter 203 args) w:=enters_of Tryz.func203 (by kernel_rfl) rfl;simp[resolve,invoke,hf,Deferred.ofValue,Xo,en]
 ·rw[hs1]
  rcases hlim with ⟨e,e'⟩|⟨b',n',e,h'⟩
  ·rw[hmj,c1] at e;cases e
  ·rw[e];exact JE word cls (some b') (Xh j) (some ⟨q,0,none⟩) more.length more.length more w (h.k.pw) (.inr ⟨b',n',rfl,h'⟩) k6 (Zai hs2) k4 k5
 ·rintro e w' ⟨rfl,hb⟩;refine⟨_,rfl,own,h.plain ho hd hl hdep hb (fun _ _=>rfl) ⟨(fun _ _ e=>by cases e),(fun _ _ _ _ e=>by cases e)⟩ ?_⟩
  show Qo _ d=.agg (kB _ _ _ (Qo _ m) _)
  have e1':o.dst=some d:=e1;rw[e1',Ql hj,QS (by intro e;injection e with e;exact hdm e)]
theorem Zf5{d f m s:Nat}{word:List UInt8}{cls:Int}{more:List Nat}(h:RgI x own l a w)(ho:Xm[i]?=some o)(hd:Qy[i]?=some (.cot d f m s word cls more))(hl:l.getD i false=false)(hdep:∀n,Xu i n=true->l.getD n false=true):o.wp Tryz.prog a w (Xn x l i) Q:=by
 obtain⟨e1,e2,e3⟩:=Qt ho hd
 have hj:d<a.tmps.size:=by rw[h.ts];exact(Xx hd rfl).1
 have hck:=QO hd;unfold chk at hck;rw[hd] at hck;simp only[Bool.and_eq_true,decide_eq_true_eq,List.all_eq_true] at hck;obtain⟨⟨⟨⟨k1,k2⟩,k3⟩,k4⟩,k5⟩:=hck
 have hf:Qo a f=.func (.func 203) #[] #[]:=h.fact hdep k1;have hm:Qo a m=.map (some x.bt):=h.fact hdep k3;obtain⟨q,hs1,hs2⟩:Fact x own a w (.sl s more):=h.fact hdep k2
 have e2':o.op=.call {callee:=.value (.tmp f),args:=#[.const (.string ⟨word.toArray⟩),.const (.int .i64 cls),.tmp m,.tmp s],argTypes:=#[9,3,180,127]}:=e2;refine Yo (f:=203) (args:=#[.string ⟨word.toArray⟩,.int .i64 cls,Qo a m,Qo a s]) e2' (fun W=> ?_) (R:=fun e w'=>e=.returned (.agg (kB word cls (KRow.has ⟨cls,[(4,true,false),(5,false,false),(6,false,false)],more,false⟩) (.map (some x.bt)) false))/\Below w.1.size w w') ?_ ?_
 ·have en:∀args w,(callFunc 203 args).run Tryz.prog w=.ok (.enter 203 args) w:=enters_of Tryz.func203 (by kernel_rfl) rfl;simp[resolve,invoke,hf,Deferred.ofValue,Xo,en]
 ·rw[hs1,hm];exact JE word cls (some x.bt) [(4,true,false),(5,false,false),(6,false,false)] (some ⟨q,0,none⟩) more.length more.length more w (h.k.pw) (.inr ⟨x.bt,3,rfl,h.t⟩) (by decide) (Zai hs2) k4 k5
 ·rintro e w' ⟨rfl,hb⟩;refine⟨_,rfl,own,h.plain ho hd hl hdep hb (fun _ _=>rfl) ⟨(fun _ _ e=>by cases e),(fun _ _ _ _ e=>by cases e)⟩ ?_⟩;have e1':o.dst=some d:=e1;rw[e1'];exact Ql hj
theorem Zf6{d f s:Nat}{word:List UInt8}{cls:Int}{more:List Nat}(h:RgI x own l a w)(ho:Xm[i]?=some o)(hd:Qy[i]?=some (.cno d f s word cls more))(hl:l.getD i false=false)(hdep:∀n,Xu i n=true->l.getD n false=true):o.wp Tryz.prog a w (Xn x l i) Q:=by
 obtain⟨e1,e2,e3⟩:=Qt ho hd
 have hj:d<a.tmps.size:=by rw[h.ts];exact(Xx hd rfl).1
 have hck:=QO hd;unfold chk at hck;rw[hd] at hck;simp only[Bool.and_eq_true,decide_eq_true_eq,List.all_eq_true] at hck;obtain⟨⟨⟨k1,k2⟩,k4⟩,k5⟩:=hck
 have hf:Qo a f=.func (.func 203) #[] #[]:=h.fact hdep k1;obtain⟨q,hs1,hs2⟩:Fact x own a w (.sl s more):=h.fact hdep k2
 have e2':o.op=.call {callee:=.value (.tmp f),args:=#[.const (.string ⟨word.toArray⟩),.const (.int .i64 cls),.const (.map none),.tmp s],argTypes:=#[9,3,180,127]}:=e2;refine Yo (f:=203) (args:=#[.string ⟨word.toArray⟩,.int .i64 cls,.map none,Qo a s]) e2' (fun W=> ?_) (R:=fun e w'=>e=.returned (.agg (kB word cls (KRow.has ⟨cls,[],more,false⟩) (.map none) false))/\Below w.1.size w w') ?_ ?_
 ·have en:∀args w,(callFunc 203 args).run Tryz.prog w=.ok (.enter 203 args) w:=enters_of Tryz.func203 (by kernel_rfl) rfl;simp[resolve,invoke,hf,Deferred.ofValue,Xo,en]
 ·rw[hs1];exact JE word cls none [] (some ⟨q,0,none⟩) more.length more.length more w (h.k.pw) (.inl ⟨rfl,rfl⟩) (by decide) (Zai hs2) k4 k5
 ·rintro e w' ⟨rfl,hb⟩;refine⟨_,rfl,own,h.plain ho hd hl hdep hb (fun _ _=>rfl) ⟨(fun _ _ e=>by cases e),(fun _ _ _ _ e=>by cases e)⟩ ?_⟩;have e1':o.dst=some d:=e1;rw[e1'];exact Ql hj
theorem Zf7{d f:Nat}{word:List UInt8}(h:RgI x own l a w)(ho:Xm[i]?=some o)(hd:Qy[i]?=some (.cam d f word))(hl:l.getD i false=false)(hdep:∀n,Xu i n=true->l.getD n false=true):o.wp Tryz.prog a w (Xn x l i) Q:=by
 obtain⟨e1,e2,e3⟩:=Qt ho hd
 have hj:d<a.tmps.size:=by rw[h.ts];exact(Xx hd rfl).1
 have hck:=QO hd;unfold chk at hck;rw[hd] at hck;simp only at hck
 have hf:Qo a f=.func (.func 204) #[] #[.pointer (some ⟨x.B3,0,none⟩),.pointer (some ⟨x.B1,0,none⟩)]:=h.fact hdep hck;have e2':o.op=.call {callee:=.value (.tmp f),args:=#[.const (.string ⟨word.toArray⟩)],argTypes:=#[9]}:=e2;refine Yo (f:=204) (args:=#[.string ⟨word.toArray⟩,.pointer (some ⟨x.B3,0,none⟩),.pointer (some ⟨x.B1,0,none⟩)]) e2' (fun W=> ?_) (Zcy word _ x.B1 x.B3 w h.k.pw (h.k.at_ 0 rfl) (h.k.at_ 1 rfl) h.p) ?_
 ·have en:∀args w,(callFunc 204 args).run Tryz.prog w=.ok (.enter 204 args) w:=enters_of Tryz.func204 (by kernel_rfl) rfl;simp[resolve,invoke,hf,Deferred.ofValue,Xo,en]
 ·rintro e w' ⟨nb,rfl,hnb,hlm,hb⟩
  rcases hlm with ⟨e,_⟩|⟨b',n',e,h'⟩
  ·cases e
  injection e with e;injection e with e;subst e;refine⟨_,rfl,fun b=>if b=nb then 1000 else own b,h.plain ho hd hl hdep hb (fun b hb'=>if_neg (by omega)) ⟨(fun _ _ e=>by cases e),(fun _ _ _ _ e=>by cases e)⟩ ?_⟩;have e1':o.dst=some d:=e1;rw[e1'];exact⟨nb,n',Ql hj,if_pos rfl,h'⟩
theorem Zf8{d f y:Nat}(h:RgI x own l a w)(ho:Xm[i]?=some o)(hd:Qy[i]?=some (.cco d f y))(hl:l.getD i false=false)(hdep:∀n,Xu i n=true->l.getD n false=true)(hdy:d≠y):o.wp Tryz.prog a w (Xn x l i) Q:=by
 obtain⟨e1,e2,e3⟩:=Qt ho hd
 have hj:d<a.tmps.size:=by rw[h.ts];exact(Xx hd rfl).1
 have hck:=QO hd;unfold chk at hck;rw[hd] at hck;simp only[Bool.and_eq_true,List.any_eq_true] at hck;obtain⟨k1,n,_,k2,k3⟩:=hck
 have hf:Qo a f=.func (.func 205) #[] #[]:=h.fact hdep k1
 obtain⟨word,cls,p,mv,hy,hmo⟩:∃word cls p mv,Qo a y=.agg (kB word cls p mv false)/\mv.oneCell'=true:=by
  cases hdn:Qy[n]? with
  |none=>rw[hdn] at k2;cases k2
  |some e=>
   rw[hdn] at k2
   cases e<;>simp only[Bool.false_eq_true,beq_iff_eq] at k2
   rename_i d' f' m' j' s' word' cls' more'
   subst k2;have hfa:=h.f n _ hdn (hdep n k3);have hck':=QO hdn;unfold chk at hck';rw[hdn] at hck';simp only[Bool.and_eq_true,decide_eq_true_eq,List.all_eq_true,List.any_eq_true] at hck';obtain⟨n1,_,⟨⟨hmv,hd1⟩,_⟩,hmk⟩:=hck'.1.1.1.1.1.2
   have hl1:=h.cl n n1 hd1 (hdep n k3);have hmj:Qo a m'=Qo a j':=h.f n1 _ hmv hl1;obtain⟨n2,hn2,hd2⟩:=Ja hmk
   obtain⟨b,nn,mm,c1,_⟩:=h.c n2 j' false hn2 (h.cl n1 n2 hd2 hl1)
   exact⟨_,_,_,_,hfa,by rw[hmj,c1];rfl⟩
 have e2':o.op=.call {callee:=.value (.tmp f),args:=#[.tmp y],argTypes:=#[182]}:=e2;refine Yo (f:=205) (args:=#[.agg (kB word cls p mv false)]) e2' (fun W=> ?_) (ZeH word cls p mv hmo w h.k.pw) ?_
 ·have en:∀args w,(callFunc 205 args).run Tryz.prog w=.ok (.enter 205 args) w:=enters_of Tryz.func205 (by kernel_rfl) rfl;simp[resolve,invoke,hf,hy,Deferred.ofValue,en]
 ·rintro e w' ⟨rfl,hb⟩;refine⟨_,rfl,own,h.plain ho hd hl hdep hb (fun _ _=>rfl) ⟨(fun _ _ e=>by cases e),(fun _ _ _ _ e=>by cases e)⟩ ?_⟩;have e1':o.dst=some d:=e1;rw[e1'];exact⟨word,cls,p,mv,by rw[QS (by intro e;injection e with e;exact hdy e)];exact hy,Ql hj⟩
theorem Zf9{d:Nat}(h:RgI x own l a w)(ho:Xm[i]?=some o)(hd:Qy[i]?=some (.cbt d))(hl:l.getD i false=false)(hdep:∀n,Xu i n=true->l.getD n false=true):o.wp Tryz.prog a w (Xn x l i) Q:=by
 obtain⟨e1,e2,e3⟩:=Qt ho hd
 have hj:d<a.tmps.size:=by rw[h.ts];exact(Xx hd rfl).1
 have e2':o.op=.call {callee:=.value (.func 202),args:=#[.const (.bool false),.const (.bool true)],argTypes:=#[4,4]}:=e2;refine Yo (f:=202) (args:=#[.bool false,.bool true]) e2' (fun W=> ?_) (XT false true w) ?_
 ·have en:∀args w,(callFunc 202 args).run Tryz.prog w=.ok (.enter 202 args) w:=enters_of Tryz.func202 (by kernel_rfl) rfl;simp[resolve,invoke,Deferred.ofValue,Xo,Za7,en]
 ·rintro e w' ⟨rfl,rfl⟩;refine⟨_,rfl,own,h.plain ho hd hl hdep (((Below.refl _ _).alloc (Nat.le_refl _) _).alloc (by simp) _) (fun _ _=>rfl) ⟨(fun _ _ e=>by cases e),(fun _ _ _ _ e=>by cases e)⟩ ?_⟩;have e1':o.dst=some d:=e1;rw[e1']
  show LimV _ (Qo _ d) false true
  rw[Ql hj];exact⟨_,_,rfl,(Box.new w 4 (.bool false)).alloc _,by have:=Box.new (w.alloc (.cells #[.bool false] 4)) 4 (.bool true);rwa [World.size_alloc] at this⟩
def Zaj:D->Bool
 | .mv d j=>d !=j
 | .asg d j=>d !=j
 | .cof d _ m _ _ _ _ _=>d !=m
 | .cco d _ y=>d !=y
 |_=>true
theorem Zds:Qy.all Zaj=true:=by kernel_rfl
theorem Zga(h:RgI x own l a w)(ho:Xm[i]?=some o)(hl:l.getD i true=false)(hdep:∀e∈o.after,Region.binds .any e=true->l.getD e.on false=true):o.wp Tryz.prog a w (Xn x l i) Q:=by
 obtain⟨d,hd⟩:=Zd1 ho
 have hl':=Zhz h.sz (QI hd) hl
 have hdep':∀n,Xu i n=true->l.getD n false=true:=fun n hn=>by
  obtain⟨e,he,rfl⟩:=Zf1 ho hn
  exact hdep e he (Za5 ho he).2
 have hap:=List.all_eq_true.1 Zds d (List.mem_of_getElem? hd)
 cases d with
 |mk j big=>exact ZhA h ho hd hl' hdep'
 |ld d s T c=>exact ZhB h ho hd hl' hdep'
 |mc d s c=>exact ZhC h ho hd hl' hdep'
 |mv d j=>exact Zd3 h ho (.inl hd) hl' hdep' (by simpa[Zaj] using hap)
 |asg d j=>exact Zd3 h ho (.inr hd) hl' hdep' (by simpa[Zaj] using hap)
 |sl d L=>exact ZhD h ho hd hl' hdep'
 |cof d f m j s word cls more=>exact Zf4 h ho hd hl' hdep' (by simpa[Zaj] using hap)
 |cot d f m s word cls more=>exact Zf5 h ho hd hl' hdep'
 |cno d f s word cls more=>exact Zf6 h ho hd hl' hdep'
 |cam d f word=>exact Zf7 h ho hd hl' hdep'
 |cco d f y=>exact Zf8 h ho hd hl' hdep' (by simpa[Zaj] using hap)
 |cbt d=>exact Zf9 h ho hd hl' hdep'
 |ins j big key src=>exact Zf3 h ho hd hl' hdep'
end
end
section
attribute [local go_sem] Oper.semAt_some
attribute [local go_sem ↓] Go.wp_at_zero Go.wp_at_succ Yy JM
theorem ImB.mono{w:World}{b n n':Nat}{m:Int->Option Value}(h:ImB w b n m)(hn:n<=n'):ImB w b n' m:=by
 obtain⟨D,h1,h2⟩:=h
 exact⟨D,h1.mono hn,h2⟩
section
variable {x:Cx} {own:Nat->Nat} {l:Array Bool} {a:Act} {w:World} {i bm:Nat}
theorem YI{d f:Nat}{word:List UInt8}(h:RgI x own l a w)(hall:∀i,i<124->l.getD i false=true)(hbm:own bm=15)(hd:Qy[i]?=some (.cam d f word)):KindB bm w (Qo a d) ⟨2,[(5,true,false)],[2],false⟩:=by
 obtain⟨nb,n,h1,h2,h3⟩:=h.f i _ hd (hall i (QI hd))
 exact⟨word,_,h1,.inr ⟨nb,n,rfl,h3⟩,fun e=>by injection e with e;injection e with e;subst e;omega⟩
theorem ZcB{d f m s:Nat}{word:List UInt8}{cls:Int}{more:List Nat}(h:RgI x own l a w)(hall:∀i,i<124->l.getD i false=true)(hbm:own bm=15)(hd:Qy[i]?=some (.cot d f m s word cls more)):KindB bm w (Qo a d) ⟨cls,[(4,true,false),(5,false,false),(6,false,false)],more,false⟩:=by
 have h1:=h.f i _ hd (hall i (QI hd));exact⟨word,_,h1,.inr ⟨x.bt,3,rfl,h.t⟩,fun e=>by injection e with e;injection e with e;have:=h.ot;rw[e] at this;omega⟩
theorem ZcC{d f s:Nat}{word:List UInt8}{cls:Int}{more:List Nat}(h:RgI x own l a w)(hall:∀i,i<124->l.getD i false=true)(_hbm:own bm=15)(hd:Qy[i]?=some (.cno d f s word cls more)):KindB bm w (Qo a d) ⟨cls,[],more,false⟩:=by
 have h1:=h.f i _ hd (hall i (QI hd));exact⟨word,_,h1,.inl ⟨rfl,rfl⟩,fun e=>by cases e⟩
theorem ZcD{d f m j s:Nat}{word:List UInt8}{cls:Int}{more:List Nat}(h:RgI x own l a w)(hall:∀i,i<124->l.getD i false=true)(hbm:own bm=15)(hd:Qy[i]?=some (.cof d f m j s word cls more)):LimM w (Qo a m) (Xh j)/\Qo a m≠ .map (some bm):=by
 have hck:=QO hd;unfold chk at hck;rw[hd] at hck;simp only[Bool.and_eq_true,decide_eq_true_eq,List.all_eq_true,List.any_eq_true] at hck;obtain⟨⟨⟨⟨⟨⟨⟨k1,k2⟩,k3⟩,k4⟩,k5⟩,k6⟩,k7⟩,k8⟩:=hck
 obtain⟨n1,_,⟨⟨hmv,hd1⟩,hin⟩,hmk⟩:=k3
 have hl1:=hall n1 (QI hmv);have hmj:Qo a m=Qo a j:=h.f n1 _ hmv hl1;obtain⟨n2,hn2,hd2⟩:=Ja hmk
 obtain⟨b,nn,mm,c1,c2,c3,c4,c5,c6⟩:=h.c n2 j false hn2 (hall n2 (QI hn2))
 rw[hmj,c1];refine⟨.inr ⟨b,nn,rfl,mm,c5,fun k=> ?_⟩,fun e=> ?_⟩
 ·rw[Za8 k8 k,c6 k];unfold ZbL
  cases hfi:(QN j).find? (fun y=>y.2.1==k) with
  |none=>rfl
  |some y=>
   have hm:=List.mem_of_find?_eq_some hfi;have hcm:=QO hn2;unfold chk at hcm;rw[hn2] at hcm;simp only[Bool.and_eq_true,List.all_eq_true,decide_eq_true_eq] at hcm;obtain⟨b0,hb0,hdy⟩:=hcm.2 y hm
   have hly:=hall y.1 (QI hdy);simp only[Option.map_some];rw[if_pos hly];have hfc:b0=false->LimV w (Qo a y.2.2) (Yr y.2.2).1 (Yr y.2.2).2:=h.f y.1 _ hdy hly;exact⟨_,rfl,hfc (by rw[hb0];exact k7)⟩
 ·injection e with e;injection e with e;subst e;rw[hbm] at c2;subst c2
  cases k7
theorem XI{d f m j s:Nat}{word:List UInt8}{cls:Int}{more:List Nat}(h:RgI x own l a w)(hall:∀i,i<124->l.getD i false=true)(hbm:own bm=15)(hd:Qy[i]?=some (.cof d f m j s word cls more)):KindB bm w (Qo a d) ⟨cls,Xh j,more,false⟩:=by
 obtain⟨h2,h3⟩:=ZcD h hall hbm hd
 exact⟨word,_,h.f i _ hd (hall i (QI hd)),h2,h3⟩
theorem ZcE{d f y i2 f2 m j s:Nat}{word:List UInt8}{cls:Int}{more:List Nat}(h:RgI x own l a w)(hall:∀i,i<124->l.getD i false=true)(hbm:own bm=15)(hd:Qy[i]?=some (.cco d f y))(hd2:Qy[i2]?=some (.cof y f2 m j s word cls more)):KindB bm w (Qo a d) ⟨cls,Xh j,more,true⟩:=by
 obtain⟨h2,h3⟩:=ZcD h hall hbm hd2
 obtain⟨word',cls',p,mv,e1,e2⟩:=h.f i _ hd (hall i (QI hd))
 have e3:=h.f i2 _ hd2 (hall i2 (QI hd2));have e4:Qo a y=.agg (kB word cls (KRow.has ⟨cls,Xh j,more,false⟩) (Qo a m) false):=e3;rw[e1] at e4;injection e4 with e4;refine⟨word,_,?_,h2,h3⟩;rw[e2,<-ZbK,e4,ZbK];rfl
theorem Zgb(h:RgI x own l a w)(hall:∀i,i<124->l.getD i false=true):∃bm,Qo a 0=.map (some bm)/\RowsB w bm 18 Vi:=by
 obtain⟨bm,n,m,c1,hbm,c3,c4,c5,c6⟩:=h.c 0 15 true rfl (hall 0 (by omega))
 have e1:Qo a 104=Qo a 15:=h.f 122 (.mv 104 15) rfl (hall 122 (by omega));have e2:Qo a 0=Qo a 104:=h.f 123 (.asg 0 104) rfl (hall 123 (by omega));refine⟨bm,by rw[e2,e1,c1],m,c5.mono (Nat.le_trans c4 (List.countP_le_length)),fun k=> ?_⟩;rw[c6 k]
 have hc:ZbL l a 15 k=((QN 15).find? (fun y=>y.2.1==k)).map (fun y=>Qo a y.2.2):=by
  unfold ZbL
  cases hfi:(QN 15).find? (fun y=>y.2.1==k) with
  |none=>rfl
  |some y=>
   have hm:=List.mem_of_find?_eq_some hfi;have hlt:∀z∈QN 15,z.1<124:=by decide
   simp only[Option.map_some];rw[if_pos (hall _ (hlt y hm))]
 rw[hc]
 by_cases hk:1<=k/\k<=18
 ·have:k=1\/k=2\/k=3\/k=4\/k=5\/k=6\/k=7\/k=8\/k=9\/k=10\/k=11\/k=12\/k=13\/k=14\/k=15\/k=16\/k=17\/k=18:=by omega
  rcases this with rfl|rfl|rfl|rfl|rfl|rfl|rfl|rfl|rfl|rfl|rfl|rfl|rfl|rfl|rfl|rfl|rfl|rfl
  ·exact⟨_,rfl,YI h hall hbm (i:=2) rfl⟩
  ·exact⟨_,rfl,YI h hall hbm (i:=5) rfl⟩
  ·exact⟨_,rfl,ZcB h hall hbm (i:=10) rfl⟩
  ·exact⟨_,rfl,ZcB h hall hbm (i:=15) rfl⟩
  ·exact⟨_,rfl,XI h hall hbm (i:=23) rfl⟩
  ·exact⟨_,rfl,YI h hall hbm (i:=26) rfl⟩
  ·exact⟨_,rfl,ZcE h hall hbm (i:=38) (i2:=37) rfl rfl⟩
  ·exact⟨_,rfl,XI h hall hbm (i:=48) rfl⟩
  ·exact⟨_,rfl,XI h hall hbm (i:=60) rfl⟩
  ·exact⟨_,rfl,ZcC h hall hbm (i:=64) rfl⟩
  ·exact⟨_,rfl,ZcC h hall hbm (i:=68) rfl⟩
  ·exact⟨_,rfl,XI h hall hbm (i:=80) rfl⟩
  ·exact⟨_,rfl,XI h hall hbm (i:=88) rfl⟩
  ·exact⟨_,rfl,XI h hall hbm (i:=96) rfl⟩
  ·exact⟨_,rfl,XI h hall hbm (i:=104) rfl⟩
  ·exact⟨_,rfl,ZcE h hall hbm (i:=114) (i2:=113) rfl rfl⟩
  ·exact⟨_,rfl,YI h hall hbm (i:=117) rfl⟩
  ·exact⟨_,rfl,YI h hall hbm (i:=120) rfl⟩
 ·have f1:Vi.find? (fun y=>y.1==k)=none:=by
   rw[List.find?_eq_none];intro y hy;have:∀y∈Vi,1<=y.1/\y.1<=18:=by decide
   have:=this y hy
   simp only[beq_iff_eq];omega
  have f2:(QN 15).find? (fun y=>y.2.1==k)=none:=by
   rw[List.find?_eq_none];intro y hy;have:∀y∈QN 15,1<=y.2.1/\y.2.1<=18:=by decide
   have:=this y hy
   simp only[beq_iff_eq];omega
  rw[f1,f2];rfl
end
theorem Za9(w:World)(hp:Env w):Calls Tryz.prog 148 #[] w fun e w'=>∃bm,e=.returned (.map (some bm))/\RowsB w' bm 18 Vi/\Below w.1.size w w':=by
 have hmm:= @run_makeMap Tryz.prog;have H0:=jq (Kp.start hp);go_enter Tryz.func148,Tryz.ntmps148
 go_wp2_with fail
 refine(XT true false w).mono ?_;rintro e W1 ⟨rfl,rfl⟩;have P1:LimV ((w.alloc (.cells #[.bool true] 4)).alloc (.cells #[.bool false] 4)) (.func (.func 267) #[] #[.pointer (some ⟨w.1.size,0,none⟩),.pointer (some ⟨w.1.size+1,0,none⟩)]) true false:=⟨_,_,rfl,(Box.new w 4 (.bool true)).alloc _,by have:=Box.new (w.alloc (.cells #[.bool true] 4)) 4 (.bool false);rwa [World.size_alloc] at this⟩;have H1:=jq ((H0.out.alloc (.cells #[.bool true] 4)).alloc (.cells #[.bool false] 4));generalize (w.alloc (.cells #[.bool true] 4)).alloc (.cells #[.bool false] 4)=W1 at*;generalize (#[.pointer (some ⟨w.1.size,0,none⟩),.pointer (some ⟨w.1.size+1,0,none⟩)]:Array Value)=cP at*;have HP1:=jq P1;clear H0 P1;go_wp2_with fail
 refine(XT false false W1).mono ?_;rintro e W2 ⟨rfl,rfl⟩;have L1:LimV ((W1.alloc (.cells #[.bool false] 4)).alloc (.cells #[.bool false] 4)) (.func (.func 267) #[] #[.pointer (some ⟨W1.1.size,0,none⟩),.pointer (some ⟨W1.1.size+1,0,none⟩)]) false false:=⟨_,_,rfl,(Box.new W1 4 (.bool false)).alloc _,by have:=Box.new (W1.alloc (.cells #[.bool false] 4)) 4 (.bool false);rwa [World.size_alloc] at this⟩;have z1:=((Below.refl W1.1.size W1).alloc (Nat.le_refl _) (.cells #[.bool false] 4)).alloc (by simp) (.cells #[.bool false] 4);generalize (W1.alloc (.cells #[.bool false] 4)).alloc (.cells #[.bool false] 4)=W2 at*;generalize (#[.pointer (some ⟨W1.1.size,0,none⟩),.pointer (some ⟨W1.1.size+1,0,none⟩)]:Array Value)=cL at*;have HL2:=jq L1;have HP2:=jq (HP1.out.here z1);have H2:=jq (H1.out.here z1);clear H1 HP1 L1 z1;have H3:=jq (((H2.out.new W2.1.size rfl #[(.func (.func 267) #[] cP)] 230).new (W2.1.size+1) (by simp) #[.func (.func 203) #[] #[]] 232));have z2:=((Below.refl W2.1.size W2).alloc (Nat.le_refl _) (.cells #[(.func (.func 267) #[] cP)] 230)).alloc (by simp) (.cells #[.func (.func 203) #[] #[]] 232);have HP3:=jq (HP2.out.here z2);have HL3:=jq (HL2.out.here z2);clear z2 H2 HP2 HL2;go_upto_region 5 with (fail)
 generalize (W2.alloc (.cells #[(.func (.func 267) #[] cP)] 230)).alloc (.cells #[.func (.func 203) #[] #[]] 232)=W3 at*;obtain⟨B1,hB1⟩:∃b,b=W2.1.size:=⟨_,rfl⟩
 rw[<-hB1] at H3 ⊢;obtain⟨B3,hB3⟩:∃b,b=B1+1:=⟨_,rfl⟩
 rw[<-hB3] at H3 ⊢;clear hB1 hB3;have z0:=(Below.refl W3.1.size W3).alloc (Nat.le_refl _) (.map #[] 0);have x10:=(H3.out.here z0).c 1 0 rfl rfl;obtain⟨V1,hp1,n1,g1⟩:=(Za2 W3).put (i:=4) 4 rfl (by omega) (by omega) (HP3.out.here z0) rfl
 have z1:=VY z0 g1 (Nat.le_refl _);obtain⟨V2,hp2,n2,g2⟩:=n1.put (i:=5) 5 rfl (by omega) (by omega) (HL3.out.here z1) rfl
 have z2:=VY z1 g2 (Nat.le_refl _);obtain⟨V3,hp3,n3,g3⟩:=n2.put (i:=6) 6 rfl (by omega) (by omega) (HL3.out.here z2) rfl
 have z3:=VY z2 g3 (Nat.le_refl _)
 have hinit:∀(fr:Act),fr.tmps.size=105->fr.defers=[]->Qo fr 1=.pointer (some ⟨B1,0,none⟩)->Qo fr 2=(.func (.func 267) #[] cL)->Qo fr 3=.pointer (some ⟨B3,0,none⟩)->Qo fr 4=Cst.amt.val ⟨w,B1,B3,W3.1.size,cP,cL⟩->Qo fr 5=Cst.code.val ⟨w,B1,B3,W3.1.size,cP,cL⟩->Qo fr 6=.map (some W3.1.size)->
  ∃own,RgI ⟨w,B1,B3,W3.1.size,cP,cL⟩ own (Array.replicate Xm.size false) fr V3.drew:=by
  intro fr f1 f2 f3 f4 f5 f6 f7 f8
  have hz:∀i,(Array.replicate Xm.size false).getD i false=true->False:=by
   intro i h;rw[Array.getD_eq_getD_getElem?,Array.getElem?_replicate] at h
   split at h<;>simp at h
  have zd:Below W3.1.size W3 V3.drew:=z3.drew;exact⟨fun b=>if b=W3.1.size then 2000 else 0,by rw[Array.size_replicate];exact Yg,f1,f2,H3.out.here zd,HP3.out.here zd,HL3.out.here zd,n3,if_pos rfl,f3,f4,f5,f6,f7,f8,fun i n _ h=>(hz i h).elim,fun i d _ h=>(hz i h).elim,fun i j big _ h=>(hz i h).elim⟩
 have HIN:=jq hinit;clear hinit z0 z1 z2 z3 n1 n2 n3 g1 g2 g3 H3 HP3 HL3;go_upto_region 6 with (fail)
 refine ZaG (ops:=Xm) (by kernel_rfl) (fun l a W=>∃own,RgI ⟨w,B1,B3,W3.1.size,cP,cL⟩ own l a W) (fun i o ho e he=>(Za5 ho he).1) (fun i o ho=>by obtain⟨d,hd⟩:=Zd1 ho;exact(Qt ho hd).2.2) (fun l a W h=>by obtain⟨own,h⟩:=h;rw[h.sz,Yg]) (fun l a W h i o ho hl hdep=>by
  obtain⟨own,h⟩:=h
  exact Zga h ho hl hdep) (fun l a W h hall=> ?_) (HIN.out _ rfl rfl rfl rfl rfl rfl rfl rfl)
 obtain⟨own,h⟩:=h
 rw[Yg] at hall;obtain⟨bm,h0,hr⟩:=Zgb h hall
 have hd:=h.df;have hb:=h.k.bl;obtain⟨ts,df⟩:=a
 simp only at hd
 subst hd;have h0':ts[0]?.getD undef=.map (some bm):=by rw[<-Array.getD_eq_getD_getElem?];exact h0
 go_wp2_with fail
 refine bodyPost_ret (v:=.map (some bm)) (by simp[results,Tryz.results148,h0']) rfl ?_;exact⟨bm,rfl,hr,hb⟩
end
end Go.Proofs.YtokjnjdbnabchaaGreatDoor
