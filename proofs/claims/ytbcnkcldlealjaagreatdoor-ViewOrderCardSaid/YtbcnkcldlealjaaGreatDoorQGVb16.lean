/- Fr6, Fs. -/
import Derived.Test.YtbcnkcldlealjaaGreatDoorQGVb15
set_option maxRecDepth 100000
set_option maxHeartbeats 16000000
namespace Go.Proofs.YtbcnkcldlealjaaGreatDoor
open Go.Lib renaming hid→jq
open Go.RowKit Go.Shelf
section
section
variable {x:Cx} {own:Nat->Nat} {l:Array Bool} {a:Act} {w:World} {i:Nat} {o:Oper} {Q:Exit->Act->World->Prop}
theorem XI(v:Value):a.eval (.const v)=v:=rfl
theorem Zb7(f:FuncId):a.eval (.func f)=.func (.func f) #[] #[]:=rfl
theorem Zb8{j:Nat}(h:(Xe j).map (fun x=>x.2.1)=(Xz j).map (fun x=>(x.1:Int)))(k:Int):(Xz j).find? (fun y=>(y.1:Int)==k)=((Xe j).find? (fun y=>y.2.1==k)).map (fun y=>(y.2.1.toNat,Vd y.2.2)):=by
 unfold Xz at*
 rw[List.map_map,List.map_inj_left] at h;rw[List.find?_map]
 congr 1
 generalize Xe j=L at h ⊢
 induction L with
 |nil=>rfl
 |cons y L ih=>
  have h1:y.2.1=((y.2.1.toNat:Nat):Int):=h y List.mem_cons_self;rw[List.find?_cons,List.find?_cons,ih fun z hz=>h z (List.mem_cons_of_mem _ hz)];simp only[Function.comp];rw[<-h1]
theorem Zbd{q:Nat}{L:List Nat}(h:w.heap[q]?=some (.cells (L.map (fun(y:Nat)=>Value.int .i64 (y:Int))).toArray 3 (0,0))):Sl I1 1 w w.1.size (some ⟨q,0,none⟩) L.length L:=by
 refine⟨rfl,fun _=>⟨q,0,rfl,(Array.getElem?_eq_some_iff.1 h).1,fun k y hy j u hj=> ?_⟩⟩;have hj0:j=0:=by have:=(List.getElem?_eq_some_iff.1 hj).1;rw[ZgV] at this;omega
 subst hj0;refine(cell_of_row w q _ _ 3 (0,0) h).trans ?_;simp only[I1,List.getElem?_cons_zero,Option.some.injEq] at hj;subst hj;simp[hy]
theorem Zg2{d f m j s:Nat}{word:List UInt8}{cls:Int}{more:List Nat}(h:RgI x own l a w)(ho:XG[i]?=some o)(hd:QG[i]?=some (.cof d f m j s word cls more))(hl:l.getD i false=false)(hdep:∀n,XV i n=true->l.getD n false=true)(hdm:d≠m):o.wp Tryz.prog a w (XH x l i) Q:=by
 obtain⟨e1,e2,e3⟩:=QB ho hd
 have hj:d<a.tmps.size:=by rw[h.ts];exact(Ya hd rfl).1
 have hck:=Xf hd;unfold chk at hck;rw[hd] at hck;simp only[Bool.and_eq_true,decide_eq_true_eq,List.all_eq_true,List.any_eq_true] at hck;obtain⟨⟨⟨⟨⟨⟨⟨k1,k2⟩,k3⟩,k4⟩,k5⟩,k6⟩,k7⟩,k8⟩:=hck
 obtain⟨n1,_,⟨⟨hmv,hd1⟩,hin⟩,hmk⟩:=k3
 have hf:Qw a f=.func (.func 92) #[] #[]:=h.fact hdep k1;obtain⟨q,hs1,hs2⟩:Fact x own a w (.sl s more):=h.fact hdep k2
 have hl1:=hdep n1 hd1;have hmj:Qw a m=Qw a j:=h.f n1 _ hmv hl1;obtain⟨n2,hn2,hd2⟩:=JY hmk
 obtain⟨b,nn,mm,c1,c2,c3,c4,c5,c6⟩:=h.c n2 j false hn2 (h.cl n1 n2 hd2 hl1)
 have hlim:LimM w (Qw a m) (Xz j):=by
  rw[hmj,c1];refine .inr ⟨b,nn,rfl,mm,c5,fun k=> ?_⟩;have hfm:(Xz j).find? (fun y=>(y.1:Int)==k)=((Xe j).find? (fun y=>y.2.1==k)).map (fun y=>(y.2.1.toNat,Vd y.2.2)):=Zb8 k8 k;rw[hfm,c6 k];unfold ZcG
  cases hfi:(Xe j).find? (fun y=>y.2.1==k) with
  |none=>rfl
  |some y=>
   have hm:=List.mem_of_find?_eq_some hfi;have hly:l.getD y.1 false=true:=h.cl n1 y.1 (hin y hm) hl1;have hcm:=Xf hn2;unfold chk at hcm;rw[hn2] at hcm;simp only[Bool.and_eq_true,List.all_eq_true,decide_eq_true_eq] at hcm;obtain⟨b0,hb0,hdy⟩:=hcm.2 y hm
   simp only[Option.map_some];rw[if_pos hly];have hfc:b0=false->LimV w (Qw a y.2.2) (Vd y.2.2).1 (Vd y.2.2).2:=h.f y.1 _ hdy hly;exact⟨_,rfl,hfc (by rw[hb0];exact k7)⟩
 have e2':o.op=.call {callee:=.value (.tmp f),args:=#[.const (.string ⟨word.toArray⟩),.const (.int .i64 cls),.tmp m,.tmp s],argTypes:=#[9,3,85,125]}:=e2;refine YU (f:=92) (args:=#[.string ⟨word.toArray⟩,.int .i64 cls,Qw a m,Qw a s]) e2' (fun W=> ?_) (R:=fun e w'=>e=.returned (.agg (kB word cls (KRow.has ⟨cls,Xz j,more,false⟩) (Qw a m) false))/\Below w.1.size w w') ?_ ?_
 ·have en:∀args w,(callFunc 92 args).run Tryz.prog w=.ok (.enter 92 args) w:=enters_of Tryz.func92 (by kernel_rfl) rfl;simp[resolve,invoke,hf,Deferred.ofValue,XI,en]
 ·rw[hs1]
  rcases hlim with ⟨e,e'⟩|⟨b',n',e,h'⟩
  ·rw[hmj,c1] at e;cases e
  ·rw[e];exact ZaG word cls (some b') (Xz j) (some ⟨q,0,none⟩) more.length more.length more w (h.k.pw) (.inr ⟨b',n',rfl,h'⟩) k6 (Zbd hs2) k4 k5
 ·rintro e w' ⟨rfl,hb⟩;refine⟨_,rfl,own,h.plain ho hd hl hdep hb (fun _ _=>rfl) ⟨(fun _ _ e=>by cases e),(fun _ _ _ _ e=>by cases e)⟩ ?_⟩
  show Qw _ d=.agg (kB _ _ _ (Qw _ m) _)
  have e1':o.dst=some d:=e1;rw[e1',Qr hj,Xh (by intro e;injection e with e;exact hdm e)]
theorem Zg3{d f m s:Nat}{word:List UInt8}{cls:Int}{more:List Nat}(h:RgI x own l a w)(ho:XG[i]?=some o)(hd:QG[i]?=some (.cot d f m s word cls more))(hl:l.getD i false=false)(hdep:∀n,XV i n=true->l.getD n false=true):o.wp Tryz.prog a w (XH x l i) Q:=by
 obtain⟨e1,e2,e3⟩:=QB ho hd
 have hj:d<a.tmps.size:=by rw[h.ts];exact(Ya hd rfl).1
 have hck:=Xf hd;unfold chk at hck;rw[hd] at hck;simp only[Bool.and_eq_true,decide_eq_true_eq,List.all_eq_true] at hck;obtain⟨⟨⟨⟨k1,k2⟩,k3⟩,k4⟩,k5⟩:=hck
 have hf:Qw a f=.func (.func 92) #[] #[]:=h.fact hdep k1;have hm:Qw a m=.map (some x.bt):=h.fact hdep k3;obtain⟨q,hs1,hs2⟩:Fact x own a w (.sl s more):=h.fact hdep k2
 have e2':o.op=.call {callee:=.value (.tmp f),args:=#[.const (.string ⟨word.toArray⟩),.const (.int .i64 cls),.tmp m,.tmp s],argTypes:=#[9,3,85,125]}:=e2;refine YU (f:=92) (args:=#[.string ⟨word.toArray⟩,.int .i64 cls,Qw a m,Qw a s]) e2' (fun W=> ?_) (R:=fun e w'=>e=.returned (.agg (kB word cls (KRow.has ⟨cls,[(4,true,false),(5,false,false),(6,false,false)],more,false⟩) (.map (some x.bt)) false))/\Below w.1.size w w') ?_ ?_
 ·have en:∀args w,(callFunc 92 args).run Tryz.prog w=.ok (.enter 92 args) w:=enters_of Tryz.func92 (by kernel_rfl) rfl;simp[resolve,invoke,hf,Deferred.ofValue,XI,en]
 ·rw[hs1,hm];exact ZaG word cls (some x.bt) [(4,true,false),(5,false,false),(6,false,false)] (some ⟨q,0,none⟩) more.length more.length more w (h.k.pw) (.inr ⟨x.bt,3,rfl,h.t⟩) (by decide) (Zbd hs2) k4 k5
 ·rintro e w' ⟨rfl,hb⟩;refine⟨_,rfl,own,h.plain ho hd hl hdep hb (fun _ _=>rfl) ⟨(fun _ _ e=>by cases e),(fun _ _ _ _ e=>by cases e)⟩ ?_⟩;have e1':o.dst=some d:=e1;rw[e1'];exact Qr hj
theorem Zg4{d f s:Nat}{word:List UInt8}{cls:Int}{more:List Nat}(h:RgI x own l a w)(ho:XG[i]?=some o)(hd:QG[i]?=some (.cno d f s word cls more))(hl:l.getD i false=false)(hdep:∀n,XV i n=true->l.getD n false=true):o.wp Tryz.prog a w (XH x l i) Q:=by
 obtain⟨e1,e2,e3⟩:=QB ho hd
 have hj:d<a.tmps.size:=by rw[h.ts];exact(Ya hd rfl).1
 have hck:=Xf hd;unfold chk at hck;rw[hd] at hck;simp only[Bool.and_eq_true,decide_eq_true_eq,List.all_eq_true] at hck;obtain⟨⟨⟨k1,k2⟩,k4⟩,k5⟩:=hck
 have hf:Qw a f=.func (.func 92) #[] #[]:=h.fact hdep k1;obtain⟨q,hs1,hs2⟩:Fact x own a w (.sl s more):=h.fact hdep k2
 have e2':o.op=.call {callee:=.value (.tmp f),args:=#[.const (.string ⟨word.toArray⟩),.const (.int .i64 cls),.const (.map none),.tmp s],argTypes:=#[9,3,85,125]}:=e2;refine YU (f:=92) (args:=#[.string ⟨word.toArray⟩,.int .i64 cls,.map none,Qw a s]) e2' (fun W=> ?_) (R:=fun e w'=>e=.returned (.agg (kB word cls (KRow.has ⟨cls,[],more,false⟩) (.map none) false))/\Below w.1.size w w') ?_ ?_
 ·have en:∀args w,(callFunc 92 args).run Tryz.prog w=.ok (.enter 92 args) w:=enters_of Tryz.func92 (by kernel_rfl) rfl;simp[resolve,invoke,hf,Deferred.ofValue,XI,en]
 ·rw[hs1];exact ZaG word cls none [] (some ⟨q,0,none⟩) more.length more.length more w (h.k.pw) (.inl ⟨rfl,rfl⟩) (by decide) (Zbd hs2) k4 k5
 ·rintro e w' ⟨rfl,hb⟩;refine⟨_,rfl,own,h.plain ho hd hl hdep hb (fun _ _=>rfl) ⟨(fun _ _ e=>by cases e),(fun _ _ _ _ e=>by cases e)⟩ ?_⟩;have e1':o.dst=some d:=e1;rw[e1'];exact Qr hj
theorem Zg5{d f:Nat}{word:List UInt8}(h:RgI x own l a w)(ho:XG[i]?=some o)(hd:QG[i]?=some (.cam d f word))(hl:l.getD i false=false)(hdep:∀n,XV i n=true->l.getD n false=true):o.wp Tryz.prog a w (XH x l i) Q:=by
 obtain⟨e1,e2,e3⟩:=QB ho hd
 have hj:d<a.tmps.size:=by rw[h.ts];exact(Ya hd rfl).1
 have hck:=Xf hd;unfold chk at hck;rw[hd] at hck;simp only at hck
 have hf:Qw a f=.func (.func 93) #[] #[.pointer (some ⟨x.B3,0,none⟩),.pointer (some ⟨x.B1,0,none⟩)]:=h.fact hdep hck;have e2':o.op=.call {callee:=.value (.tmp f),args:=#[.const (.string ⟨word.toArray⟩)],argTypes:=#[9]}:=e2;refine YU (f:=93) (args:=#[.string ⟨word.toArray⟩,.pointer (some ⟨x.B3,0,none⟩),.pointer (some ⟨x.B1,0,none⟩)]) e2' (fun W=> ?_) (Zde word _ x.B1 x.B3 w h.k.pw (h.k.at_ 0 rfl) (h.k.at_ 1 rfl) h.p) ?_
 ·have en:∀args w,(callFunc 93 args).run Tryz.prog w=.ok (.enter 93 args) w:=enters_of Tryz.func93 (by kernel_rfl) rfl;simp[resolve,invoke,hf,Deferred.ofValue,XI,en]
 ·rintro e w' ⟨nb,rfl,hnb,hlm,hb⟩
  rcases hlm with ⟨e,_⟩|⟨b',n',e,h'⟩
  ·cases e
  injection e with e;injection e with e;subst e;refine⟨_,rfl,fun b=>if b=nb then 1000 else own b,h.plain ho hd hl hdep hb (fun b hb'=>if_neg (by omega)) ⟨(fun _ _ e=>by cases e),(fun _ _ _ _ e=>by cases e)⟩ ?_⟩;have e1':o.dst=some d:=e1;rw[e1'];exact⟨nb,n',Qr hj,if_pos rfl,h'⟩
theorem Zg6{d f y:Nat}(h:RgI x own l a w)(ho:XG[i]?=some o)(hd:QG[i]?=some (.cco d f y))(hl:l.getD i false=false)(hdep:∀n,XV i n=true->l.getD n false=true)(hdy:d≠y):o.wp Tryz.prog a w (XH x l i) Q:=by
 obtain⟨e1,e2,e3⟩:=QB ho hd
 have hj:d<a.tmps.size:=by rw[h.ts];exact(Ya hd rfl).1
 have hck:=Xf hd;unfold chk at hck;rw[hd] at hck;simp only[Bool.and_eq_true,List.any_eq_true] at hck;obtain⟨k1,n,_,k2,k3⟩:=hck
 have hf:Qw a f=.func (.func 94) #[] #[]:=h.fact hdep k1
 obtain⟨word,cls,p,mv,hy,hmo⟩:∃word cls p mv,Qw a y=.agg (kB word cls p mv false)/\mv.oneCell'=true:=by
  cases hdn:QG[n]? with
  |none=>rw[hdn] at k2;cases k2
  |some e=>
   rw[hdn] at k2
   cases e<;>simp only[Bool.false_eq_true,beq_iff_eq] at k2
   rename_i d' f' m' j' s' word' cls' more'
   subst k2;have hfa:=h.f n _ hdn (hdep n k3);have hck':=Xf hdn;unfold chk at hck';rw[hdn] at hck';simp only[Bool.and_eq_true,decide_eq_true_eq,List.all_eq_true,List.any_eq_true] at hck';obtain⟨n1,_,⟨⟨hmv,hd1⟩,_⟩,hmk⟩:=hck'.1.1.1.1.1.2
   have hl1:=h.cl n n1 hd1 (hdep n k3);have hmj:Qw a m'=Qw a j':=h.f n1 _ hmv hl1;obtain⟨n2,hn2,hd2⟩:=JY hmk
   obtain⟨b,nn,mm,c1,_⟩:=h.c n2 j' false hn2 (h.cl n1 n2 hd2 hl1)
   exact⟨_,_,_,_,hfa,by rw[hmj,c1];rfl⟩
 have e2':o.op=.call {callee:=.value (.tmp f),args:=#[.tmp y],argTypes:=#[87]}:=e2;refine YU (f:=94) (args:=#[.agg (kB word cls p mv false)]) e2' (fun W=> ?_) (ZfB word cls p mv hmo w h.k.pw) ?_
 ·have en:∀args w,(callFunc 94 args).run Tryz.prog w=.ok (.enter 94 args) w:=enters_of Tryz.func94 (by kernel_rfl) rfl;simp[resolve,invoke,hf,hy,Deferred.ofValue,en]
 ·rintro e w' ⟨rfl,hb⟩;refine⟨_,rfl,own,h.plain ho hd hl hdep hb (fun _ _=>rfl) ⟨(fun _ _ e=>by cases e),(fun _ _ _ _ e=>by cases e)⟩ ?_⟩;have e1':o.dst=some d:=e1;rw[e1'];exact⟨word,cls,p,mv,by rw[Xh (by intro e;injection e with e;exact hdy e)];exact hy,Qr hj⟩
theorem Zg7{d:Nat}(h:RgI x own l a w)(ho:XG[i]?=some o)(hd:QG[i]?=some (.cbt d))(hl:l.getD i false=false)(hdep:∀n,XV i n=true->l.getD n false=true):o.wp Tryz.prog a w (XH x l i) Q:=by
 obtain⟨e1,e2,e3⟩:=QB ho hd
 have hj:d<a.tmps.size:=by rw[h.ts];exact(Ya hd rfl).1
 have e2':o.op=.call {callee:=.value (.func 91),args:=#[.const (.bool false),.const (.bool true)],argTypes:=#[4,4]}:=e2;refine YU (f:=91) (args:=#[.bool false,.bool true]) e2' (fun W=> ?_) (Yw false true w) ?_
 ·have en:∀args w,(callFunc 91 args).run Tryz.prog w=.ok (.enter 91 args) w:=enters_of Tryz.func91 (by kernel_rfl) rfl;simp[resolve,invoke,Deferred.ofValue,XI,Zb7,en]
 ·rintro e w' ⟨rfl,rfl⟩;refine⟨_,rfl,own,h.plain ho hd hl hdep (((Below.refl _ _).alloc (Nat.le_refl _) _).alloc (by simp) _) (fun _ _=>rfl) ⟨(fun _ _ e=>by cases e),(fun _ _ _ _ e=>by cases e)⟩ ?_⟩;have e1':o.dst=some d:=e1;rw[e1']
  show LimV _ (Qw _ d) false true
  rw[Qr hj];exact⟨_,_,rfl,(Box.new w 4 (.bool false)).alloc _,by have:=Box.new (w.alloc (.cells #[.bool false] 4)) 4 (.bool true);rwa [World.size_alloc] at this⟩
def Zbe:D->Bool
 | .mv d j=>d !=j
 | .asg d j=>d !=j
 | .cof d _ m _ _ _ _ _=>d !=m
 | .cco d _ y=>d !=y
 |_=>true
theorem Zeb:QG.all Zbe=true:=by kernel_rfl
theorem Zg8(h:RgI x own l a w)(ho:XG[i]?=some o)(hl:l.getD i true=false)(hdep:∀e∈o.after,Region.binds .any e=true->l.getD e.on false=true):o.wp Tryz.prog a w (XH x l i) Q:=by
 obtain⟨d,hd⟩:=ZeS ho
 have hl':=ZiM h.sz (QW hd) hl
 have hdep':∀n,XV i n=true->l.getD n false=true:=fun n hn=>by
  obtain⟨e,he,rfl⟩:=ZgZ ho hn
  exact hdep e he (Zb5 ho he).2
 have hap:=List.all_eq_true.1 Zeb d (List.mem_of_getElem? hd)
 cases d with
 |mk j big=>exact ZiN h ho hd hl' hdep'
 |ld d s T c=>exact ZiO h ho hd hl' hdep'
 |mc d s c=>exact ZiP h ho hd hl' hdep'
 |mv d j=>exact ZeU h ho (.inl hd) hl' hdep' (by simpa[Zbe] using hap)
 |asg d j=>exact ZeU h ho (.inr hd) hl' hdep' (by simpa[Zbe] using hap)
 |sl d L=>exact ZiQ h ho hd hl' hdep'
 |cof d f m j s word cls more=>exact Zg2 h ho hd hl' hdep' (by simpa[Zbe] using hap)
 |cot d f m s word cls more=>exact Zg3 h ho hd hl' hdep'
 |cno d f s word cls more=>exact Zg4 h ho hd hl' hdep'
 |cam d f word=>exact Zg5 h ho hd hl' hdep'
 |cco d f y=>exact Zg6 h ho hd hl' hdep' (by simpa[Zbe] using hap)
 |cbt d=>exact Zg7 h ho hd hl' hdep'
 |ins j big key src=>exact Zg1 h ho hd hl' hdep'
end
end
section
attribute [local go_sem] Oper.semAt_some
attribute [local go_sem ↓] Go.wp_at_zero Go.wp_at_succ Vi ZaW
theorem ImB.mono{w:World}{b n n':Nat}{m:Int->Option Value}(h:ImB w b n m)(hn:n<=n'):ImB w b n' m:=by
 obtain⟨D,h1,h2⟩:=h
 exact⟨D,h1.mono hn,h2⟩
section
variable {x:Cx} {own:Nat->Nat} {l:Array Bool} {a:Act} {w:World} {i bm:Nat}
theorem Vt{d f:Nat}{word:List UInt8}(h:RgI x own l a w)(hall:∀i,i<124->l.getD i false=true)(hbm:own bm=15)(hd:QG[i]?=some (.cam d f word)):KindB bm w (Qw a d) ⟨2,[(5,true,false)],[2],false⟩:=by
 obtain⟨nb,n,h1,h2,h3⟩:=h.f i _ hd (hall i (QW hd))
 exact⟨word,_,h1,.inr ⟨nb,n,rfl,h3⟩,fun e=>by injection e with e;injection e with e;subst e;omega⟩
theorem Zdh{d f m s:Nat}{word:List UInt8}{cls:Int}{more:List Nat}(h:RgI x own l a w)(hall:∀i,i<124->l.getD i false=true)(hbm:own bm=15)(hd:QG[i]?=some (.cot d f m s word cls more)):KindB bm w (Qw a d) ⟨cls,[(4,true,false),(5,false,false),(6,false,false)],more,false⟩:=by
 have h1:=h.f i _ hd (hall i (QW hd));exact⟨word,_,h1,.inr ⟨x.bt,3,rfl,h.t⟩,fun e=>by injection e with e;injection e with e;have:=h.ot;rw[e] at this;omega⟩
theorem Zdi{d f s:Nat}{word:List UInt8}{cls:Int}{more:List Nat}(h:RgI x own l a w)(hall:∀i,i<124->l.getD i false=true)(_hbm:own bm=15)(hd:QG[i]?=some (.cno d f s word cls more)):KindB bm w (Qw a d) ⟨cls,[],more,false⟩:=by
 have h1:=h.f i _ hd (hall i (QW hd));exact⟨word,_,h1,.inl ⟨rfl,rfl⟩,fun e=>by cases e⟩
theorem Zdj{d f m j s:Nat}{word:List UInt8}{cls:Int}{more:List Nat}(h:RgI x own l a w)(hall:∀i,i<124->l.getD i false=true)(hbm:own bm=15)(hd:QG[i]?=some (.cof d f m j s word cls more)):LimM w (Qw a m) (Xz j)/\Qw a m≠ .map (some bm):=by
 have hck:=Xf hd;unfold chk at hck;rw[hd] at hck;simp only[Bool.and_eq_true,decide_eq_true_eq,List.all_eq_true,List.any_eq_true] at hck;obtain⟨⟨⟨⟨⟨⟨⟨k1,k2⟩,k3⟩,k4⟩,k5⟩,k6⟩,k7⟩,k8⟩:=hck
 obtain⟨n1,_,⟨⟨hmv,hd1⟩,hin⟩,hmk⟩:=k3
 have hl1:=hall n1 (QW hmv);have hmj:Qw a m=Qw a j:=h.f n1 _ hmv hl1;obtain⟨n2,hn2,hd2⟩:=JY hmk
 obtain⟨b,nn,mm,c1,c2,c3,c4,c5,c6⟩:=h.c n2 j false hn2 (hall n2 (QW hn2))
 rw[hmj,c1];refine⟨.inr ⟨b,nn,rfl,mm,c5,fun k=> ?_⟩,fun e=> ?_⟩
 ·rw[Zb8 k8 k,c6 k];unfold ZcG
  cases hfi:(Xe j).find? (fun y=>y.2.1==k) with
  |none=>rfl
  |some y=>
   have hm:=List.mem_of_find?_eq_some hfi;have hcm:=Xf hn2;unfold chk at hcm;rw[hn2] at hcm;simp only[Bool.and_eq_true,List.all_eq_true,decide_eq_true_eq] at hcm;obtain⟨b0,hb0,hdy⟩:=hcm.2 y hm
   have hly:=hall y.1 (QW hdy);simp only[Option.map_some];rw[if_pos hly];have hfc:b0=false->LimV w (Qw a y.2.2) (Vd y.2.2).1 (Vd y.2.2).2:=h.f y.1 _ hdy hly;exact⟨_,rfl,hfc (by rw[hb0];exact k7)⟩
 ·injection e with e;injection e with e;subst e;rw[hbm] at c2;subst c2
  cases k7
theorem Yl{d f m j s:Nat}{word:List UInt8}{cls:Int}{more:List Nat}(h:RgI x own l a w)(hall:∀i,i<124->l.getD i false=true)(hbm:own bm=15)(hd:QG[i]?=some (.cof d f m j s word cls more)):KindB bm w (Qw a d) ⟨cls,Xz j,more,false⟩:=by
 obtain⟨h2,h3⟩:=Zdj h hall hbm hd
 exact⟨word,_,h.f i _ hd (hall i (QW hd)),h2,h3⟩
theorem Zdk{d f y i2 f2 m j s:Nat}{word:List UInt8}{cls:Int}{more:List Nat}(h:RgI x own l a w)(hall:∀i,i<124->l.getD i false=true)(hbm:own bm=15)(hd:QG[i]?=some (.cco d f y))(hd2:QG[i2]?=some (.cof y f2 m j s word cls more)):KindB bm w (Qw a d) ⟨cls,Xz j,more,true⟩:=by
 obtain⟨h2,h3⟩:=Zdj h hall hbm hd2
 obtain⟨word',cls',p,mv,e1,e2⟩:=h.f i _ hd (hall i (QW hd))
 have e3:=h.f i2 _ hd2 (hall i2 (QW hd2));have e4:Qw a y=.agg (kB word cls (KRow.has ⟨cls,Xz j,more,false⟩) (Qw a m) false):=e3;rw[e1] at e4;injection e4 with e4;refine⟨word,_,?_,h2,h3⟩;rw[e2,<-ZcF,e4,ZcF];rfl
theorem Zg9(h:RgI x own l a w)(hall:∀i,i<124->l.getD i false=true):∃bm,Qw a 0=.map (some bm)/\RowsB w bm 18 VT:=by
 obtain⟨bm,n,m,c1,hbm,c3,c4,c5,c6⟩:=h.c 0 15 true rfl (hall 0 (by omega))
 have e1:Qw a 104=Qw a 15:=h.f 122 (.mv 104 15) rfl (hall 122 (by omega));have e2:Qw a 0=Qw a 104:=h.f 123 (.asg 0 104) rfl (hall 123 (by omega));refine⟨bm,by rw[e2,e1,c1],m,c5.mono (Nat.le_trans c4 (List.countP_le_length)),fun k=> ?_⟩;rw[c6 k]
 have hc:ZcG l a 15 k=((Xe 15).find? (fun y=>y.2.1==k)).map (fun y=>Qw a y.2.2):=by
  unfold ZcG
  cases hfi:(Xe 15).find? (fun y=>y.2.1==k) with
  |none=>rfl
  |some y=>
   have hm:=List.mem_of_find?_eq_some hfi;have hlt:∀z∈Xe 15,z.1<124:=by decide
   simp only[Option.map_some];rw[if_pos (hall _ (hlt y hm))]
 rw[hc]
 by_cases hk:1<=k/\k<=18
 ·have:k=1\/k=2\/k=3\/k=4\/k=5\/k=6\/k=7\/k=8\/k=9\/k=10\/k=11\/k=12\/k=13\/k=14\/k=15\/k=16\/k=17\/k=18:=by omega
  rcases this with rfl|rfl|rfl|rfl|rfl|rfl|rfl|rfl|rfl|rfl|rfl|rfl|rfl|rfl|rfl|rfl|rfl|rfl
  ·exact⟨_,rfl,Vt h hall hbm (i:=2) rfl⟩
  ·exact⟨_,rfl,Vt h hall hbm (i:=5) rfl⟩
  ·exact⟨_,rfl,Zdh h hall hbm (i:=10) rfl⟩
  ·exact⟨_,rfl,Zdh h hall hbm (i:=15) rfl⟩
  ·exact⟨_,rfl,Yl h hall hbm (i:=23) rfl⟩
  ·exact⟨_,rfl,Vt h hall hbm (i:=26) rfl⟩
  ·exact⟨_,rfl,Zdk h hall hbm (i:=38) (i2:=37) rfl rfl⟩
  ·exact⟨_,rfl,Yl h hall hbm (i:=48) rfl⟩
  ·exact⟨_,rfl,Yl h hall hbm (i:=60) rfl⟩
  ·exact⟨_,rfl,Zdi h hall hbm (i:=64) rfl⟩
  ·exact⟨_,rfl,Zdi h hall hbm (i:=68) rfl⟩
  ·exact⟨_,rfl,Yl h hall hbm (i:=80) rfl⟩
  ·exact⟨_,rfl,Yl h hall hbm (i:=88) rfl⟩
  ·exact⟨_,rfl,Yl h hall hbm (i:=96) rfl⟩
  ·exact⟨_,rfl,Yl h hall hbm (i:=104) rfl⟩
  ·exact⟨_,rfl,Zdk h hall hbm (i:=114) (i2:=113) rfl rfl⟩
  ·exact⟨_,rfl,Vt h hall hbm (i:=117) rfl⟩
  ·exact⟨_,rfl,Vt h hall hbm (i:=120) rfl⟩
 ·have f1:VT.find? (fun y=>y.1==k)=none:=by
   rw[List.find?_eq_none];intro y hy;have:∀y∈VT,1<=y.1/\y.1<=18:=by decide
   have:=this y hy
   simp only[beq_iff_eq];omega
  have f2:(Xe 15).find? (fun y=>y.2.1==k)=none:=by
   rw[List.find?_eq_none];intro y hy;have:∀y∈Xe 15,1<=y.2.1/\y.2.1<=18:=by decide
   have:=this y hy
   simp only[beq_iff_eq];omega
  rw[f1,f2];rfl
end
theorem Zb9(w:World)(hp:Env w):Calls Tryz.prog 60 #[] w fun e w'=>∃bm,e=.returned (.map (some bm))/\RowsB w' bm 18 VT/\Below w.1.size w w':=by
 have hmm:= @run_makeMap Tryz.prog;have H0:=jq (Kp.start hp);go_enter Tryz.func60,Tryz.ntmps60
 go_wp2_with fail
 refine(Yw true false w).mono ?_;rintro e W1 ⟨rfl,rfl⟩;have P1:LimV ((w.alloc (.cells #[.bool true] 4)).alloc (.cells #[.bool false] 4)) (.func (.func 130) #[] #[.pointer (some ⟨w.1.size,0,none⟩),.pointer (some ⟨w.1.size+1,0,none⟩)]) true false:=⟨_,_,rfl,(Box.new w 4 (.bool true)).alloc _,by have:=Box.new (w.alloc (.cells #[.bool true] 4)) 4 (.bool false);rwa [World.size_alloc] at this⟩;have H1:=jq ((H0.out.alloc (.cells #[.bool true] 4)).alloc (.cells #[.bool false] 4));generalize (w.alloc (.cells #[.bool true] 4)).alloc (.cells #[.bool false] 4)=W1 at*;generalize (#[.pointer (some ⟨w.1.size,0,none⟩),.pointer (some ⟨w.1.size+1,0,none⟩)]:Array Value)=cP at*;have HP1:=jq P1;clear H0 P1;go_wp2_with fail
 refine(Yw false false W1).mono ?_;rintro e W2 ⟨rfl,rfl⟩;have L1:LimV ((W1.alloc (.cells #[.bool false] 4)).alloc (.cells #[.bool false] 4)) (.func (.func 130) #[] #[.pointer (some ⟨W1.1.size,0,none⟩),.pointer (some ⟨W1.1.size+1,0,none⟩)]) false false:=⟨_,_,rfl,(Box.new W1 4 (.bool false)).alloc _,by have:=Box.new (W1.alloc (.cells #[.bool false] 4)) 4 (.bool false);rwa [World.size_alloc] at this⟩;have z1:=((Below.refl W1.1.size W1).alloc (Nat.le_refl _) (.cells #[.bool false] 4)).alloc (by simp) (.cells #[.bool false] 4);generalize (W1.alloc (.cells #[.bool false] 4)).alloc (.cells #[.bool false] 4)=W2 at*;generalize (#[.pointer (some ⟨W1.1.size,0,none⟩),.pointer (some ⟨W1.1.size+1,0,none⟩)]:Array Value)=cL at*;have HL2:=jq L1;have HP2:=jq (HP1.out.here z1);have H2:=jq (H1.out.here z1);clear H1 HP1 L1 z1;have H3:=jq (((H2.out.new W2.1.size rfl #[(.func (.func 130) #[] cP)] 123).new (W2.1.size+1) (by simp) #[.func (.func 92) #[] #[]] 126));have z2:=((Below.refl W2.1.size W2).alloc (Nat.le_refl _) (.cells #[(.func (.func 130) #[] cP)] 123)).alloc (by simp) (.cells #[.func (.func 92) #[] #[]] 126);have HP3:=jq (HP2.out.here z2);have HL3:=jq (HL2.out.here z2);clear z2 H2 HP2 HL2;go_upto_region 5 with (fail)
 generalize (W2.alloc (.cells #[(.func (.func 130) #[] cP)] 123)).alloc (.cells #[.func (.func 92) #[] #[]] 126)=W3 at*;obtain⟨B1,hB1⟩:∃b,b=W2.1.size:=⟨_,rfl⟩
 rw[<-hB1] at H3 ⊢;obtain⟨B3,hB3⟩:∃b,b=B1+1:=⟨_,rfl⟩
 rw[<-hB3] at H3 ⊢;clear hB1 hB3;have z0:=(Below.refl W3.1.size W3).alloc (Nat.le_refl _) (.map #[] 0);have x10:=(H3.out.here z0).c 1 0 rfl rfl;obtain⟨V1,hp1,n1,g1⟩:=(Zb4 W3).put (i:=4) 4 rfl (by omega) (by omega) (HP3.out.here z0) rfl
 have z1:=JW z0 g1 (Nat.le_refl _);obtain⟨V2,hp2,n2,g2⟩:=n1.put (i:=5) 5 rfl (by omega) (by omega) (HL3.out.here z1) rfl
 have z2:=JW z1 g2 (Nat.le_refl _);obtain⟨V3,hp3,n3,g3⟩:=n2.put (i:=6) 6 rfl (by omega) (by omega) (HL3.out.here z2) rfl
 have z3:=JW z2 g3 (Nat.le_refl _)
 have hinit:∀(fr:Act),fr.tmps.size=105->fr.defers=[]->Qw fr 1=.pointer (some ⟨B1,0,none⟩)->Qw fr 2=(.func (.func 130) #[] cL)->Qw fr 3=.pointer (some ⟨B3,0,none⟩)->Qw fr 4=Cst.amt.val ⟨w,B1,B3,W3.1.size,cP,cL⟩->Qw fr 5=Cst.code.val ⟨w,B1,B3,W3.1.size,cP,cL⟩->Qw fr 6=.map (some W3.1.size)->
  ∃own,RgI ⟨w,B1,B3,W3.1.size,cP,cL⟩ own (Array.replicate XG.size false) fr V3.drew:=by
  intro fr f1 f2 f3 f4 f5 f6 f7 f8
  have hz:∀i,(Array.replicate XG.size false).getD i false=true->False:=by
   intro i h;rw[Array.getD_eq_getD_getElem?,Array.getElem?_replicate] at h
   split at h<;>simp at h
  have zd:Below W3.1.size W3 V3.drew:=z3.drew;exact⟨fun b=>if b=W3.1.size then 2000 else 0,by rw[Array.size_replicate];exact YJ,f1,f2,H3.out.here zd,HP3.out.here zd,HL3.out.here zd,n3,if_pos rfl,f3,f4,f5,f6,f7,f8,fun i n _ h=>(hz i h).elim,fun i d _ h=>(hz i h).elim,fun i j big _ h=>(hz i h).elim⟩
 have HIN:=jq hinit;clear hinit z0 z1 z2 z3 n1 n2 n3 g1 g2 g3 H3 HP3 HL3;go_upto_region 6 with (fail)
 refine ZbG (ops:=XG) (by kernel_rfl) (fun l a W=>∃own,RgI ⟨w,B1,B3,W3.1.size,cP,cL⟩ own l a W) (fun i o ho e he=>(Zb5 ho he).1) (fun i o ho=>by obtain⟨d,hd⟩:=ZeS ho;exact(QB ho hd).2.2) (fun l a W h=>by obtain⟨own,h⟩:=h;rw[h.sz,YJ]) (fun l a W h i o ho hl hdep=>by
  obtain⟨own,h⟩:=h
  exact Zg8 h ho hl hdep) (fun l a W h hall=> ?_) (HIN.out _ rfl rfl rfl rfl rfl rfl rfl rfl)
 obtain⟨own,h⟩:=h
 rw[YJ] at hall;obtain⟨bm,h0,hr⟩:=Zg9 h hall
 have hd:=h.df;have hb:=h.k.bl;obtain⟨ts,df⟩:=a
 simp only at hd
 subst hd;have h0':ts[0]?.getD undef=.map (some bm):=by rw[<-Array.getD_eq_getD_getElem?];exact h0
 go_wp2_with fail
 refine bodyPost_ret (v:=.map (some bm)) (by simp[results,Tryz.results60,h0']) rfl ?_;exact⟨bm,rfl,hr,hb⟩
end
end Go.Proofs.YtbcnkcldlealjaaGreatDoor
