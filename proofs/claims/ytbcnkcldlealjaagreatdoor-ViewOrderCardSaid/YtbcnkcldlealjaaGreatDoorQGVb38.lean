/- Vm, Vbl, Vm2, Vix, Vdf, Vde, Vfi. -/
import Derived.Test.YtbcnkcldlealjaaGreatDoorQGVb11
import Derived.Deep.MidRow
import Derived.Great.BuildSlice
set_option maxRecDepth 100000
set_option maxHeartbeats 2000000
namespace Go.Proofs.YtbcnkcldlealjaaGreatDoor
open Go.Lib renaming hid→jq
open Go.RowKit Go.Shelf
section
abbrev Fx:=Fct×FaV
def Qt(x:Fx):List Value:=ftA x.1 x.2
theorem Qc(x:Fx):(Qt x).length=21:=rfl
theorem Xa(x:Fx):∀u∈Qt x,u.oneCell'=true:=by
 intro u hu;simp only[Qt,ftA,S,List.mem_cons,List.mem_nil_iff,or_false] at hu
 rcases hu with rfl|rfl|rfl|rfl|rfl|rfl|rfl|rfl|rfl|rfl|rfl|rfl|rfl|rfl|rfl|rfl|rfl|rfl|rfl|rfl|rfl<;>rfl
structure FxM (w:World) (B:Nat) (x:Fx):Prop where
 m:FaM w B x.1 x.2
 pn:x.2.pn<=100000
 on:x.2.on<=100000
 sz:x.1.Sz 1000
structure Fxs (w:World) (B:Nat) (A:Option Addr) (n:Nat) (xs:List Fx):Prop where
 sl:Sl Qt 21 w B A n xs
 all:∀x∈xs,FxM w B x
section
variable {w w':World} {B B' n i:Nat} {A:Option Addr} {xs:List Fx} {x:Fx}
theorem FxM.below(h:FxM w B x)(hb:Below B w w'):FxM w' B x:=⟨h.m.below hb,h.pn,h.on,h.sz⟩
theorem FxM.more(h:FxM w B x)(hB:B<=B'):FxM w B' x:=⟨h.m.more hB,h.pn,h.on,h.sz⟩
theorem FxM.here(h:FxM w w.1.size x)(hb:Below w.1.size w w'):FxM w' w'.1.size x:=(h.below hb).more hb.size
theorem Fxs.below(h:Fxs w B A n xs)(hb:Below B w w'):Fxs w' B A n xs:=⟨h.sl.below hb,fun x hx=>(h.all x hx).below hb⟩
theorem Fxs.more(h:Fxs w B A n xs)(hB:B<=B'):Fxs w B' A n xs:=⟨h.sl.more hB,fun x hx=>(h.all x hx).more hB⟩
theorem Fxs.here(h:Fxs w w.1.size A n xs)(hb:Below w.1.size w w'):Fxs w' w'.1.size A n xs:=(h.below hb).more hb.size
theorem Fxs.len(h:Fxs w B A n xs):n=xs.length:=h.sl.1
theorem Fxs.nil:Fxs w B A 0 []:=⟨Sl.nil,fun x hx=>by cases hx⟩
theorem Jj(f:Fct)(v:FaV):(ftA f v).length=21:=rfl
theorem Qi{b off:Nat}{f:Fct}{v:FaV}(h:w.rangeAt b off (ftA f v)):(Ji (.pointer (some ⟨b,off,none⟩))).run Tryz.prog w=.ok (.agg (Qa f v)) w:=by
 have e:=run_loadAt_mid (P:=Tryz.prog) w b off 44 (ftA f v) _ h Tryz.underlying44 rfl (by rw[Jj];kernel_rfl);exact e
theorem Fxs.at_(h:Fxs w B A n xs)(hi:i<n):∃b off f v,A=some ⟨b,off,none⟩/\b<B/\xs[i]?=some (f,v)/\FxM w B (f,v)/\w.rangeAt b (off+i*21) (ftA f v):=by
 obtain⟨b,off,x,hA,hb,hx,hc⟩:=h.sl.at_ hi
 exact⟨b,off,x.1,x.2,hA,hb,hx,h.all x (List.mem_of_getElem? hx),fun j v hj=>hc j v hj⟩
theorem Xl{b off:Nat}{cs:List Value}(h:w.rangeAt b off cs)(hb:Below B w w')(hB:b<B):w'.rangeAt b off cs:=fun j v hj=>(hb.cell (p:=⟨b,off+j,none⟩) hB).trans (h j v hj)
def blF(n:Nat)(ps:Array (Nat×Value)):Sem Value:=Instr.buildSlice 22 n ps
theorem ZaX(n:Nat)(ps:Array (Nat×Value)):Instr.buildSlice 22 n ps=blF n ps:=rfl
theorem Vj(w:World)(f:Fct)(v:FaV):(blF 1 #[(0,.agg (Qa f v))]).run Tryz.prog w=.ok (.slice (some ⟨w.1.size,0,none⟩) 1 1) (w.alloc (.cells (Qa f v) 44)):=by
 obtain⟨i,hi,z,hz,hs⟩:∃i,Tryz.prog.info? 44=some i/\∃z,i.zero=some z/\i.size=21:=by
  have h:(Tryz.prog.info? 44).map (fun i=>(i.zero.isSome,i.size))=some (true,21):=by kernel_rfl
  cases hq:Tryz.prog.info? 44 with
  |none=>rw[hq] at h;cases h
  |some i=>
   rw[hq] at h;simp only[Option.map_some,Option.some.injEq,Prod.mk.injEq] at h
   cases hz:i.zero with
   |none=>rw[hz] at h;cases h.1
   |some z=>exact⟨i,rfl,z,hz,h.2⟩
 refine run_buildSlice w 22 44 1 _ (Qa f v) i z Tryz.underlying22 hi hz (by rw[hs];decide) (by rw[hs];decide) ?_;rw[hs];generalize hg:(fun x=>z.cells[x%z.cells.size]!)=g;have hr:Array.range (1*21)=#[0,1,2,3,4,5,6,7,8,9,10,11,12,13,14,15,16,17,18,19,20]:=by rfl
 rw[hr];simp[Instr.fill,Qa,Value.cells]
def stF(a v:Value):Sem Unit:=Instr.storeAt 44 a v
theorem QA(a v:Value):Instr.storeAt 44 a v=stF a v:=rfl
theorem Zik(f:Fct)(v:FaV):(Qa f v).all (·.oneCell')=true:=by
 rw[Array.all_eq_true_iff_forall_mem];intro x hx;exact Xa (f,v) x (by rw[<-ZaV,List.mem_toArray] at hx;exact hx)
theorem ZeD{g:Nat}{old:Array Value}{f:Fct}{v:FaV}(hg:BlkB w g old 44)(ho:old.size=21):(stF (.pointer (some ⟨g,0,none⟩)) (.agg (Qa f v))).run Tryz.prog w=.ok () (w.setRow g (Qa f v)):=by
 have e:=run_storeVar_row (P:=Tryz.prog) w g 44 44 old (Qa f v) hg (by rw[Qe];kernel_rfl) (by rw[ho,Qe]) (Zik f v);unfold stF;simp only[Instr.storeAt,Instr.sureAddr,Sem.run_bind,Sem.run_pure,Result.andThen_ok,e]
theorem Qj(w:World){cs:Array Value}(f:Fct)(v:FaV)(hc:cs.size=21):(stF (.pointer (some ⟨w.1.size,0,none⟩)) (.agg (Qa f v))).run Tryz.prog (w.alloc (.cells cs 44))=.ok () (w.alloc (.cells (Qa f v) 44)):=by
 rw[ZeD (show BlkB (w.alloc (.cells cs 44)) w.1.size cs 44 from heap_alloc_new w _) hc,World.setRow_alloc_new]
end
end
section
theorem ZfM:∀(cs:List Value) (n j:Nat) (A:Array Value),n+j+cs.length<=A.size->
 ((cs.zipIdx j).foldl (fun(B:Array Value) (x:Value×Nat)=>B.setIfInBounds (n+x.2) x.1) A).toList=A.toList.take (n+j)++cs++A.toList.drop (n+j+cs.length):=by
 intro cs
 induction cs with
 |nil=>intro n j A _;simp
 |cons c cs ih=>
  intro n j A h;rw[List.length_cons] at h ⊢;rw[List.zipIdx_cons,List.foldl_cons,ih n (j+1) _ (by simp;omega)];have hl:n+j<A.toList.length:=by simp;omega
  have e:(A.setIfInBounds (n+j) c).toList=A.toList.take (n+j)++c::A.toList.drop (n+j+1):=by
   rw[Array.toList_setIfInBounds,List.set_eq_take_append_cons_drop,if_pos hl]
  have ht:(A.toList.take (n+j)).length=n+j:=by rw[List.length_take];omega
  rw[e,show n+(j+1)=(A.toList.take (n+j)).length+1 by omega,List.take_length_add_append,show(A.toList.take (n+j)).length+1+cs.length=(A.toList.take (n+j)).length+(cs.length+1) by omega,List.drop_length_add_append];rw[List.drop_succ_cons,List.drop_drop];simp only[List.take_succ_cons,List.take_zero,List.append_assoc,List.cons_append,List.nil_append,List.append_cancel_left_eq];rw[show n+j+1+cs.length=n+j+(cs.length+1) by omega]
theorem ZfN(k:Nat):∀(l:List (Array Value)) (i:Nat) (C:Array Value),(∀a∈l,a.size=k)->C.size=(i+l.length)*k->
 ∃D,Instr.fill (fun i=>some (i*k,k)) C ((l.zipIdx i).map fun x=>(x.2,Value.agg x.1))=some D/\D.toList=C.toList.take (i*k)++l.flatMap (·.toList):=by
 intro l
 induction l with
 |nil=>
  intro i C _ hC;refine⟨C,rfl,?_⟩;rw[List.flatMap_nil,List.append_nil,List.take_of_length_le (by simp at hC;simp[hC])]
 |cons a l ih=>
  intro i C ha hC;have hk:a.size=k:=ha a (List.mem_cons_self ..);rw[List.length_cons] at hC;have hm:i*k+k<=C.size:=by rw[hC,<-Nat.succ_mul];exact Nat.mul_le_mul_right k (by omega)
  have hf:=ZfM a.toList (i*k) 0 C (by simp[hk];omega)
  have hz:(a.zipIdx.foldl (fun(B:Array Value) (x:Value×Nat)=>B.setIfInBounds (i*k+x.2) x.1) C).toList=C.toList.take (i*k)++a.toList++C.toList.drop (i*k+k):=by
   rw[<-Array.foldl_toList,Array.toList_zipIdx];have h:=hf;simp only[Nat.add_zero,Array.length_toList,hk] at h;exact h
  obtain⟨D,h1,h2⟩:=ih (i+1) (a.zipIdx.foldl (fun(B:Array Value) (x:Value×Nat)=>B.setIfInBounds (i*k+x.2) x.1) C) (fun b hb=>ha b (List.mem_cons_of_mem _ hb)) (by
   have h3:=congrArg List.length hz;rw[Array.length_toList] at h3;rw[h3];simp only[List.length_append,List.length_take,List.length_drop,Array.length_toList,hk];rw[Nat.min_eq_left (by omega),show i+1+l.length=i+(l.length+1) by omega,<-hC];omega)
  refine⟨D,?_,?_⟩
  ·rw[List.zipIdx_cons,List.map_cons];unfold Instr.fill;simp only[Value.cells,hk];rw[if_neg (by simp;omega)];exact h1
  ·have ht:(C.toList.take (i*k)).length=i*k:=by rw[List.length_take,Array.length_toList];omega
   have hak:a.toList.length=k:=by rw[Array.length_toList];exact hk
   have e3:∀(R P:List Value),P.length=i*k->(P++a.toList++R).take (i*k+k)=P++a.toList:=fun R P hP=>by
    rw[List.take_append_of_le_length (by rw[List.length_append,hP,hak];exact Nat.le_refl _),List.take_of_length_le (by rw[List.length_append,hP,hak];exact Nat.le_refl _)]
   rw[h2,hz,List.flatMap_cons,Nat.succ_mul,e3 _ _ ht,List.append_assoc]
theorem Zbh(w:World)(xs:List Fx)(ps:Array (Nat×Value))(h0:xs≠[])(hl:xs.length<=1000)(hps:ps.toList=((xs.map fun x=>Qa x.1 x.2).zipIdx 0).map fun x=>(x.2,Value.agg x.1)):
 (blF xs.length ps).run Tryz.prog w=.ok (.slice (some ⟨w.1.size,0,none⟩) xs.length xs.length) (w.alloc (.cells (xs.flatMap Qt).toArray 44)):=by
 obtain⟨i,hi,z,hz,hs⟩:∃i,Tryz.prog.info? 44=some i/\∃z,i.zero=some z/\i.size=21:=by
  have h:(Tryz.prog.info? 44).map (fun i=>(i.zero.isSome,i.size))=some (true,21):=by kernel_rfl
  cases hq:Tryz.prog.info? 44 with
  |none=>rw[hq] at h;cases h
  |some i=>
   rw[hq] at h;simp only[Option.map_some,Option.some.injEq,Prod.mk.injEq] at h
   cases hz:i.zero with
   |none=>rw[hz] at h;cases h.1
   |some z=>exact⟨i,rfl,z,hz,h.2⟩
 have hne:xs.length≠0:=by cases xs;exact absurd rfl h0;simp
 refine run_buildSlice w 22 44 xs.length _ (xs.flatMap Qt).toArray i z Tryz.underlying22 hi hz (by rw[hs];omega) (by rw[hs];omega) ?_;rw[hs,hps]
 obtain⟨D,h1,h2⟩:=ZfN 21 (xs.map fun x=>Qa x.1 x.2) 0 ((Array.range (xs.length*21)).map (fun x=>z.cells[x%z.cells.size]!)) (fun a ha=>by
  obtain⟨x,_,rfl⟩:=List.mem_map.1 ha
  rfl) (by simp)
 rw[h1];refine congrArg some (Array.ext' ?_);rw[h2,Nat.zero_mul,List.take_zero,List.nil_append,List.flatMap_map];rfl
end
section
theorem Sl.upto{α:Type}{enc:α->List Value}{k:Nat}{w:World}{B n m:Nat}{A:Option Addr}{xs:List α}(h:Sl enc k w B A n xs)(hm:m<=n):Sl enc k w B A m (xs.take m):=by
 refine⟨by rw[List.length_take,<-h.1];omega,fun h0=> ?_⟩;obtain⟨b,off,e,hb,hc⟩:=h.2 (by omega)
 refine⟨b,off,e,hb,fun i x hi j u hj=>hc i x ?_ j u hj⟩;rw[List.getElem?_take] at hi
 split at hi
 ·exact hi
 ·cases hi
theorem Fxs.upto{w:World}{B n m:Nat}{A:Option Addr}{xs:List Fx}(h:Fxs w B A n xs)(hm:m<=n):Fxs w B A m (xs.take m):=⟨h.sl.upto hm,fun x hx=>h.all x (List.mem_of_mem_take hx)⟩
def FsPost(l:List Fct)(e2:Int)(w:World):Ending->World->Prop:=fun e w'=>
 ∃A c ys,e=.returned (.tuple #[.slice A ys.length c,.int .i64 e2])/\Fxs w' w'.1.size A ys.length ys/\ys.map (·.1)=l/\(ys.length<=c/\(A=none->c=0)/\(∀a:Addr,A=some a->w.1.size<=a.block)/\∀y∈ys,FxM w' w.1.size y)/\Below w.1.size w w'
theorem FsPost.empty{w w':World}{e2:Int}(hb:Below w.1.size w w'):FsPost [] e2 w (.returned (.tuple #[.slice none 0 0,.int .i64 e2])) w':=⟨none,0,[],rfl,Fxs.nil,rfl,⟨Nat.le_refl _,fun _=>rfl,fun _ h=>(by cases h),fun _ h=>(by cases h)⟩,hb⟩
theorem Own.room{α:Type}{enc:α->List Value}{k base n c:Nat}{e:TypeId}{w:World}{A:Option Addr}{xs:List α}(h:Own enc k e w base (.slice A n c) xs):xs.length<=c/\(A=none->c=0)/\∀a:Addr,A=some a->base<=a.block:=by
 obtain⟨_,h2,_,h4⟩:=h.facts
 refine⟨h2,fun e=> ?_,fun a e=> ?_⟩
 all_goals rcases h4 with ⟨h6,h5,_⟩|⟨g,h5,h6,_⟩
 ·exact h5
 ·rw[e] at h5;cases h5
 ·rw[e] at h6;cases h6
 ·rw[e] at h5;cases h5;exact h6
theorem Qo{W W':World}{row:Option Nat}{B B':Nat}(hg:W.grownBy W' row)(hB:B<=W.1.size)(hBB:B<=B')(hr:∀r,row=some r->B'<=r):Below B W W':=
 ⟨hg.os,hg.tape,hg.output,hg.size,fun k hk=>hg.block k (by omega) (fun e=>by have:=hr k e.symm;omega)⟩
theorem Je{f:Fct}{v:FaV}:(Qa f v).setIfInBounds 1 (.int .i64 0)=Qa (QE f) v:=rfl
theorem Zdx{W:World}{B:Nat}{f:Fct}{v:FaV}(h:FxM W B (f,v)):FxM W B (QE f,v):=
 ⟨⟨h.m.pk,h.m.op,h.m.pc⟩,h.pn,h.on,{h.sz with stamp:=⟨by show(-9223372036854775808:Int)<=0;decide,by show(0:Int)<=9223372036854775807;decide⟩}⟩
theorem ZcK{W:World}{q:Nat}{f:Fct}{v:FaV}(h:BlkB W q (Qa f v) 44):Sl Qt 21 W W.1.size (some ⟨q,0,none⟩) 1 [(f,v)]:=by
 refine⟨rfl,fun _=>⟨q,0,rfl,h.lt,fun j z hj k u hk=> ?_⟩⟩
 cases j with
 |zero=>
  simp only[List.getElem?_cons_zero,Option.some.injEq] at hj;subst hj;rw[Nat.zero_mul,Nat.zero_add];exact h.cell k (by rw[<-ZaV,List.getElem?_toArray];exact hk)
 |succ j=>simp at hj
theorem QS:Zak Tryz.prog 22 44 21 312:=ZaQ Tryz.underlying22 (by kernel_rfl) (by decide) (by decide)
end
section
attribute [local go_sem] Oper.semAt_some
attribute [local go_sem ↓] Qq QA
theorem Yy(g:Nat)(cb:Array Value)(p:Fx->Bool)(A:Option Addr)(n c:Nat)(xs:List Fx)(w:World)(eg:∀args w,(callFunc g args).run Tryz.prog w=.ok (.enter g args) w)
 (hp:∀(W:World) (f:Fct) (v:FaV),(f,v)∈xs->Below w.1.size w W->Calls Tryz.prog g (#[.agg (Qa f v)]++cb) W fun e w'=>e=.returned (.bool (p (f,v)))/\Below W.1.size W w') (hr:Fxs w w.1.size A n xs) (hn:n<=1000000000):
 Calls Tryz.prog 58 #[.slice A n c,.func (.func g) #[] cb] w fun e w'=>e=.returned (.int .i64 (VV p xs))/\Below w.1.size w w':=by
 have HPR:=jq hp;have HR:=jq hr;clear hp hr;go_enter Tryz.func58,Tryz.ntmps58
 go_wp2
 go_loopw [5,8] (fun _ i wr=>∃j:Nat,j<=n/\i=.int .i64 j/\Hid ((xs.take j).any p=false)/\Below w.1.size w wr) (fun _ i _=>n-(intOf i).toNat)
 case atStart=>exact⟨0,Nat.zero_le _,rfl,by show _=_;simp,Below.refl _ _⟩
 case round=>
  obtain⟨j,hj,rfl,HN,hb⟩:=hrel
  by_cases hlt:j<n
  ·obtain⟨b,off,f,v,rfl,hbl,hxj,_,hd⟩:=(HR.out.below hb).at_ hlt
   have hld:=Qi hd;have HX:=jq hxj;have HC:=jq (HPR.out wr f v (List.mem_of_getElem? hxj) hb);clear hxj hd
   cases hq:p (f,v) with
   |true=>
    rw[hq] at HC;have HQ:=jq hq;clear hq;go_wp2_with (go_at_fn g;refine(HC.out).mono ?_;rintro e w' ⟨rfl,hb'⟩)
    go_ret
    exact⟨Qb (ZcT HX.out HQ.out HN.out).symm,hb.trans (hb'.mono hb.size)⟩
   |false=>
    rw[hq] at HC;have HQ:=jq hq;clear hq;go_wp2_with (go_at_fn g;refine(HC.out).mono ?_;rintro e w' ⟨rfl,hb'⟩)
    go_roundw
    case rel=>exact⟨j+1,by omega,by go_num,JG HX.out HN.out HQ.out,hb.trans (hb'.mono hb.size)⟩
    case measure=>simp[intOf];omega
  ·go_wp2
   go_ret
   exact⟨Qb (JF (by have:=HN.out;rwa [List.take_of_length_le (by have:=HR.out.len;omega)] at this)).symm,hb⟩
theorem Yn(g:Nat)(cb:Array Value)(p:Fx->Bool)(A:Option Addr)(n c:Nat)(xs:List Fx)(w:World)(eg:∀args w,(callFunc g args).run Tryz.prog w=.ok (.enter g args) w)
 (hp:∀(W:World) (f:Fct) (v:FaV),(f,v)∈xs->Below w.1.size w W->Calls Tryz.prog g (#[.agg (Qa f v)]++cb) W fun e w'=>e=.returned (.bool (p (f,v)))/\Below W.1.size W w') (hr:Fxs w w.1.size A n xs) (hn:n<=1000000000):
 Calls Tryz.prog 25 #[.slice A n c,.func (.func g) #[] cb] w fun e w'=>e=.returned (.bool (xs.any p))/\Below w.1.size w w':=by
 have H:=jq (Yy g cb p A n c xs w eg hp hr hn);clear hp eg hr;have e:=Zal p xs;generalize VV p xs=z at*;have E:=jq e;clear e;go_enter Tryz.func25,Tryz.ntmps25
 go_wp2_with (go_at_call 58;refine(H.out).mono ?_;rintro e w' ⟨rfl,hb'⟩)
 go_ret
 exact⟨Qy E.out,hb'⟩
end
section
attribute [local go_sem] Oper.semAt_some
attribute [local go_sem ↓] Qq QA
section
variable {w:World} {g n c base i:Nat} {xs:List Fx}
theorem Zcm(w:World)(g:Nat)(cs:Array Value):w.grownBy (w.setRow g cs) (some g):=⟨rfl,rfl,rfl,by simp[World.setRow],fun k _ hk=>QN w g cs (fun e=>hk (by rw[e]))⟩
theorem Vx{w1 w2 w3:World}{r:Option Nat}(h:w1.grownBy w2 r)(k:w2.grownBy w3 r):w1.grownBy w3 r:=
 ⟨k.os.trans h.os,k.tape.trans h.tape,k.output.trans h.output,Nat.le_trans h.size k.size,fun b hb hr=>(k.block b (Nat.lt_of_lt_of_le hb h.size) hr).trans (h.block b hb hr)⟩
theorem Vy{w1 w2:World}(h:Below w1.1.size w1 w2)(r:Option Nat):w1.grownBy w2 r:=⟨h.os,h.tape,h.output,h.size,fun b hb _=>h.block b hb⟩
theorem Own.row(ho:Own Qt 21 44 w base (.slice (some ⟨g,0,none⟩) n c) xs):∃cur:Array Value,BlkB w g cur 44/\n=xs.length/\n*21<=cur.size/\cur.toList.take (n*21)=xs.flatMap Qt/\base<=g/\
 ∀(cs:Array Value) (ys:List Fx) (m:Nat),cs.size=cur.size->m<=n->ys.length=m->cs.toList.take (m*21)=ys.flatMap Qt->Own Qt 21 44 (w.setRow g cs) base (.slice (some ⟨g,0,none⟩) m c) ys:=by
 have hn:=ho.facts.1
 rcases ho.2 with ⟨h0,_⟩|⟨g',cap,cur,hv,hb,hg,hnc,hcm,hcs,ht⟩
 ·cases h0
 injection hv with a1 a2 a3;injection a1 with a1;injection a1 with a1;subst a1;subst a3
 rw[<-hn] at ht hnc
 have hl:n*21<=cur.size:=by
  have h1:=congrArg List.length ht;rw[List.length_take,Ql Qc,Array.length_toList,<-hn] at h1;omega
 refine⟨cur,hg,hn,hl,ht,hb,fun cs ys m h1 h2 h3 h4=>⟨by rw[Ql Qc],.inr ⟨g,c,cs,by rw[h3],hb,setRow_heap w g cur cs 44 (0,0) hg,by omega,hcm,by rw[h1,hcs],by rw[h3];exact h4⟩⟩⟩
theorem ZdH{cur:Array Value}{off:Nat}{f:Fct}{v:FaV}(hg:BlkB w g cur 44)(hl:off+21<=cur.size):(stF (.pointer (some ⟨g,off,none⟩)) (.agg (Qa f v))).run Tryz.prog w=.ok () (w.setRow g (splice cur.toList off (ftA f v)).toArray):=by
 have h1:=run_storeCells_at (P:=Tryz.prog) g off 44 (ftA f v) 0 cur w hg (by rw[Jj];omega) (Xa (f,v));have hi:(Tryz.prog.info? 44).map (·.size)=some 21:=by kernel_rfl
 unfold stF
 cases hq:Tryz.prog.info? 44 with
 |none=>rw[hq] at hi;cases hi
 |some i=>
  have hs:i.size=21:=by rw[hq] at hi;simpa using hi
  have hc:(Value.agg (Qa f v)).cells.size=21:=Qe f v;have hcl:(Value.agg (Qa f v)).cells.toList=ftA f v:=rfl;simp[Instr.storeAt,Instr.sureAddr,storeVar,sizeOf,typeInfo,hq,hs,hc,hcl,h1,splice]
theorem Own.setF(ho:Own Qt 21 44 w base (.slice (some ⟨g,0,none⟩) n c) xs)(hi:i<n)(f:Fct)(v:FaV):
 ∃w',(stF (.pointer (some ⟨g,i*21,none⟩)) (.agg (Qa f v))).run Tryz.prog w=.ok () w'/\Own Qt 21 44 w' base (.slice (some ⟨g,0,none⟩) n c) (xs.set i (f,v))/\w.grownBy w' (some g):=by
 obtain⟨cur,hg,hn,hl,ht,_,hK⟩:=ho.row
 have hfit:i*21+21<=cur.size:=by omega
 have hsl:(splice cur.toList (i*21) (ftA f v)).length=cur.toList.length:=length_splice _ _ _ (by rw[Jj,Array.length_toList];exact hfit);refine⟨_,ZdH hg hfit,hK _ _ n (by rw[List.size_toArray,hsl,Array.length_toList]) (Nat.le_refl _) (by rw[List.length_set,<-hn]) ?_,Zcm w g _⟩
 show(splice cur.toList (i*21) (ftA f v)).take _=_
 refine List.ext_getElem? fun t=> ?_
 rw[List.getElem?_take]
 split
 ·rename_i h
  rw[Xj _ _ _ (by rw[Jj,Array.length_toList];exact hfit),Jj];have hq:t/21<xs.length:=by omega
  have hcur:∀u,(xs.flatMap Qt)[t]?=some u->cur.toList[t]?=some u:=fun u hu=>by
   rw[<-ht,List.getElem?_take_of_lt h] at hu;exact hu
  have hlk:∀x:Fx,(Qt x)[t%21]?=some ((Qt x)[t%21]'(by rw[Qc];omega)):=fun x=>List.getElem?_eq_getElem _
  by_cases e:t/21=i
  ·rw[if_neg (by omega),if_pos (by omega)];have h1:(xs.set i (f,v))[t/21]?=some (f,v):=by rw[e,List.getElem?_set_self (by omega)]
   have h2:=YF Qc (xs.set i (f,v)) (t/21) (t%21) _ _ h1 (hlk _);rw[show t/21*21+t%21=t by omega] at h2;rw[h2,show t-i*21=t%21 by omega];exact hlk (f,v)
  ·have h1:(xs.set i (f,v))[t/21]?=some xs[t/21]:=by rw[List.getElem?_set_ne (fun h=>e h.symm),List.getElem?_eq_getElem hq]
   have h2:=YF Qc (xs.set i (f,v)) (t/21) (t%21) _ _ h1 (hlk _);have h3:=YF Qc xs (t/21) (t%21) _ _ (List.getElem?_eq_getElem hq) (hlk _);rw[show t/21*21+t%21=t by omega] at h2 h3;rw[h2];have h4:=hcur _ h3
   by_cases h5:t<i*21
   ·rw[if_pos h5];exact h4
   ·rw[if_neg h5,if_neg (by omega)];exact h4
 ·rename_i h
  rw[List.getElem?_eq_none];rw[Ql Qc,List.length_set,<-hn];omega
theorem Own.clearF(ho:Own Qt 21 44 w base (.slice (some ⟨g,0,none⟩) n c) xs)(hi:i<n):
 ∃w',(∀ty,(Builtin.clear_ #[22] ty #[.slice (some ⟨g,i*21,none⟩) (n-i) (c-i)]).run Tryz.prog w=.ok (.tuple #[]) w')/\Own Qt 21 44 w' base (.slice (some ⟨g,0,none⟩) i c) (xs.take i)/\w.grownBy w' (some g):=by
 obtain⟨cur,hg,hn,hl,ht,_,hK⟩:=ho.row
 obtain⟨i0,z0,hu0,hi0,hz0,hs0,hb0,hzs0,_,_⟩:=QS
 have hzl:(Builtin.zeroCells z0.cells (n-i)).size=(n-i)*21:=by simp[Builtin.zeroCells,hzs0]
 have hfit:i*21+(Builtin.zeroCells z0.cells (n-i)).toList.length<=cur.size:=by rw[Array.length_toList,hzl];omega
 have hz1:∀u∈(Builtin.zeroCells z0.cells (n-i)).toList,u.oneCell'=true:=by
  have h1:(Tryz.prog.info? 44).map (fun i=>i.zero.map (fun z=>z.cells.all (·.oneCell')))=some (some true):=by kernel_rfl
  rw[hi0] at h1;simp only[Option.map_some,Option.some.injEq] at h1;rw[hz0] at h1;simp only[Option.map_some,Option.some.injEq] at h1;rw[Array.all_eq_true_iff_forall_mem] at h1;intro u hu;unfold Builtin.zeroCells at hu;rw[Array.mem_toList_iff,Array.mem_map] at hu;obtain⟨a,ha,rfl⟩:=hu
  have hlt:a%z0.cells.size<z0.cells.size:=Nat.mod_lt _ (by rw[hzs0];decide);rw[getElem!_pos z0.cells _ hlt];exact h1 _ (Array.getElem_mem hlt)
 have h1:=run_storeCells_at (P:=Tryz.prog) g (i*21) 44 (Builtin.zeroCells z0.cells (n-i)).toList 0 cur w hg (by rw[Nat.add_zero];exact hfit) hz1;have hni:n-i≠0:=by omega
 have hsl:(splice cur.toList (i*21) (Builtin.zeroCells z0.cells (n-i)).toList).length=cur.toList.length:=length_splice _ _ _ (by rw[Array.length_toList (xs:=cur)];exact hfit);refine⟨w.setRow g (splice cur.toList (i*21) (Builtin.zeroCells z0.cells (n-i)).toList).toArray,fun ty=> ?_,hK _ _ i (by rw[List.size_toArray,hsl,Array.length_toList]) (by omega) (by rw[List.length_take];omega) ?_,Zcm w g _⟩
 ·obtain⟨m,hm⟩:∃m,n-i=m+1:=⟨n-i-1,by omega⟩
  rw[hm] at h1 ⊢;simp[Builtin.clear_,run_underlying hu0,zeroValue,typeInfo,hi0,hz0,h1,splice]
 ·show(splice cur.toList (i*21) (Builtin.zeroCells z0.cells (n-i)).toList).take _=_
  rw[VA Qc,<-ht,List.take_take];refine List.ext_getElem? fun t=> ?_
  rw[List.getElem?_take,List.getElem?_take]
  by_cases h:t<i*21
  ·rw[if_pos h,if_pos (by omega),Xj _ _ _ (by rw[Array.length_toList (xs:=cur)];exact hfit),if_pos h]
  ·rw[if_neg h,if_neg (by omega)]
end
end
section
attribute [local go_sem] Oper.semAt_some
attribute [local go_sem ↓] Qq QA
section
variable {p:Fx->Bool} {xs zs:List Fx} {i j:Nat} {x:Fx}
theorem ZhW(h:zs.take i=(xs.take j).filter (fun x=> !p x))(hx:xs[j]?=some x)(hp:p x=true):zs.take i=(xs.take (j+1)).filter (fun x=> !p x):=by
 obtain⟨hj,rfl⟩:=List.getElem?_eq_some_iff.1 hx
 rw[List.take_succ_eq_append_getElem hj,List.filter_append,List.filter_cons_of_neg (by rw[hp];decide),List.filter_nil,List.append_nil,h]
theorem Zji(h:zs.take i=(xs.take j).filter (fun x=> !p x))(hx:xs[j]?=some x)(hp:p x=false)(hi:i<zs.length):(zs.set i x).take (i+1)=(xs.take (j+1)).filter (fun x=> !p x):=by
 obtain⟨hj,rfl⟩:=List.getElem?_eq_some_iff.1 hx
 rw[List.take_succ_eq_append_getElem hj,List.filter_append,List.filter_cons_of_pos (by rw[hp];rfl),List.filter_nil,<-h,List.take_succ_eq_append_getElem (by rw[List.length_set];exact hi),List.getElem_set_self,List.take_set_of_le (Nat.le_refl _)]
theorem ZhX(h:zs.drop j=xs.drop j)(hi:i<=j):(zs.set i x).drop (j+1)=xs.drop (j+1):=by
 have h1:zs.drop (j+1)=xs.drop (j+1):=by rw[<-List.drop_drop,h,List.drop_drop]
 rw[List.drop_set_of_lt (by omega),h1]
end
theorem Zf3(g0:Nat)(cb:Array Value)(p:Fx->Bool)(g n c base:Nat)(xs:List Fx)(w:World)(eg:∀args w,(callFunc g0 args).run Tryz.prog w=.ok (.enter g0 args) w)
 (hp:∀(W:World) (f:Fct) (v:FaV),(f,v)∈xs->w.1.size<=W.1.size->(∀b,b<w.1.size->b≠g->W.heap[b]?=w.heap[b]?)->Calls Tryz.prog g0 (#[.agg (Qa f v)]++cb) W fun e w'=>e=.returned (.bool (p (f,v)))/\Below W.1.size W w')
 (ho:Own Qt 21 44 w base (.slice (some ⟨g,0,none⟩) n c) xs) (hm:∀x∈xs,FxM w w.1.size x) (hn:n<=1000000):
 Calls Tryz.prog 65 #[.slice (some ⟨g,0,none⟩) n c,.func (.func g0) #[] cb] w fun e w'=>∃zs:List Fx,e=.returned (.slice (some ⟨g,0,none⟩) zs.length c)/\zs=xs.filter (fun x=> !p x)/\Own Qt 21 44 w' base (.slice (some ⟨g,0,none⟩) zs.length c) zs/\w.grownBy w' (some g):=by
 obtain⟨hnx,hxc,hcm,_⟩:=ho.facts
 have hc63:c<=9223372036854775807:=by unfold maxLen at hcm;omega
 have hnc:n<=c:=by omega
 have HIX:=jq (Yy g0 cb p (some ⟨g,0,none⟩) n c xs w eg (fun W f v hx hb=>hp W f v hx hb.size (fun b hb' _=>hb.block b hb')) ⟨ho.sl Qc,hm⟩ (by omega));have HP:=jq hp;have HO:=jq ho;have HNX:=jq hnx;have HZ:=jq (show VV p xs=match xs.findIdx? p with|some i=>(i:Int)|none=> -1 from rfl);generalize VV p xs=z at*;clear hp ho hm hcm hxc
 cases hi:xs.findIdx? p with
 |none=>
  have hz:=HZ.out;rw[hi] at hz;simp only at hz
  subst hz
  have HF:=jq (show xs=xs.filter (fun x=> !p x) by
   rw[List.findIdx?_eq_none_iff] at hi;rw[List.filter_eq_self.2 fun x hx=>by rw[hi x hx];rfl])
  clear HZ hi HP hnx;go_enter Tryz.func65,Tryz.ntmps65
  go_wp2_with (go_at_call 58;refine(HIX.out).mono ?_;rintro e w' ⟨rfl,hb'⟩)
  first|go_ret|skip
  have e:=HNX.out;refine⟨xs,by show Ending.returned (.slice (some ⟨g,0,none⟩) n c)=_;rw[<-e],HF.out,?_,Vy hb' _⟩;rw[<-e];exact HO.out.below hb'
 |some i0=>
  have hz:=HZ.out;rw[hi] at hz;simp only at hz
  subst hz;rw[List.findIdx?_eq_some_iff_getElem] at hi;obtain⟨hlt,hpi,hbf⟩:=hi
  have HST:=jq (show xs.take i0=(xs.take (i0+1)).filter (fun x=> !p x) by
   rw[List.take_succ_eq_append_getElem hlt,List.filter_append,List.filter_cons_of_neg (by rw[hpi];decide),List.filter_nil,List.append_nil,List.filter_eq_self.2];intro x hx;rw[List.mem_take_iff_getElem] at hx;obtain⟨k,hk,rfl⟩:=hx
   have:=hbf k (by omega)
   simpa using this)
  have hi0:i0<n:=by omega
  have hne:((i0:Int)== -1)=false:=beq_false_of_ne (by omega);clear HZ hlt hpi hbf hnx;go_enter Tryz.func65,Tryz.ntmps65
  go_wp2_with (go_at_call 58;refine(HIX.out).mono ?_;rintro e w' ⟨rfl,hb'⟩)
  have HG0:=jq (Vy hb' (some g));have HO1:=jq (HO.out.below hb');clear hb' HIX HO
  go_loopw [5,6,7] (fun i' j' _ wr=>∃(i j:Nat) (zs:List Fx),i<j/\j<=n/\i'=.int .i64 i/\j'=.int .i64 j/\Hid (Own Qt 21 44 wr base (.slice (some ⟨g,0,none⟩) n c) zs)/\Hid (zs.take i=(xs.take j).filter (fun x=> !p x))/\Hid (zs.drop j=xs.drop j)/\Hid (w.grownBy wr (some g))) (fun _ j' _ _=>n-(intOf j').toNat)
  case atStart=>exact⟨i0,i0+1,xs,by omega,by omega,rfl,by go_num,HO1.out,HST.out,rfl,HG0.out⟩
  case round=>
   clear HO1 HG0 HST;obtain⟨i,j,zs,hij,hjn,rfl,rfl,HO,HT,HD,HG⟩:=hrel
   by_cases hlt:j<n
   ·obtain⟨b,off,x,hA,_,hzx,hcx⟩:=(HO.out.sl Qc).at_ hlt
    injection hA with hA;injection hA with h1 h2;subst h1;subst h2
    obtain⟨f,v⟩:=x
    have hxx:xs[j]?=some (f,v):=by
     have h3:(zs.drop j)[0]?=(xs.drop j)[0]?:=by rw[HD.out]
     rw[List.getElem?_drop,List.getElem?_drop,Nat.add_zero,hzx] at h3;exact h3.symm
    have hld:=Qi (show wr.rangeAt g (j*21) (ftA f v) from fun k u hk=>by have:=hcx k u hk;rwa [Nat.zero_add] at this);have hst:=fun cs (hc:cs.size=21)=>Qj wr f v (cs:=cs) hc
    have hbX:BlkB (wr.alloc (.cells (Qa f v) 44)) wr.1.size (Qa f v) 44:=heap_alloc_new wr _;have hgA:=Vx HG.out (World.grownBy_alloc wr (.cells (Qa f v) 44) (some g));have HX:=jq hxx;have HO2:=jq (HO.out.alloc (.cells (Qa f v) 44));have HC:=jq (HP.out (wr.alloc (.cells (Qa f v) 44)) f v (List.mem_of_getElem? hxx) hgA.size (fun b hb hne=>hgA.block b hb (fun e=>by injection e with e;exact hne e)));have HGA:=jq hgA;have HBX:=jq hbX;have HZL:=jq (show i<zs.length by have:=HO.out.facts.1;omega);clear hzx hcx hxx hgA hbX;go_upto_region 8 with (fail)
    generalize wr.alloc (.cells (Qa f v) 44)=W1 at*;clear hld hst;generalize wr.1.size=b1 at*;have hl1:=Qk HBX.out (Qe f v)
    cases hq:p (f,v) with
    |true=>
     rw[hq] at HC;have HQ:=jq hq;clear hq;go_wp2_with (go_at_fn g0;refine(HC.out).mono ?_;rintro e w3 ⟨rfl,hb3⟩)
     go_roundw
     case rel=>exact⟨i,j+1,zs,by omega,by omega,rfl,by go_num,HO2.out.below hb3,ZhW HT.out HX.out HQ.out,(show _=_ by rw[<-List.drop_drop,HD.out,List.drop_drop]),Vx HGA.out (Vy hb3 _)⟩
     case measure=>simp[intOf];omega
    |false=>
     rw[hq] at HC;have HQ:=jq hq;clear hq;have hin:i<n:=by omega
     have i1:(0:Int)<=(i:Int):=by omega
     have i2:(i:Int)<(n:Int):=by omega
     go_wp2_with (go_at_fn g0;refine(HC.out).mono ?_;rintro e w3 ⟨rfl,hb3⟩;obtain⟨w4,hsf,ho4,hg4⟩:=(HO2.out.below hb3).setF hin f v;have hl3:=Qk (HBX.out.here hb3) (Qe f v))
     go_roundw
     case rel=>exact⟨i+1,j+1,zs.set i (f,v),by omega,by omega,by go_num,by go_num,ho4,Zji HT.out HX.out HQ.out HZL.out,ZhX HD.out (by omega),Vx (Vx HGA.out (Vy hb3 _)) hg4⟩
     case measure=>simp[intOf];omega
   ·obtain rfl:j=n:=by omega
    obtain⟨w5,hcl,ho5,hg5⟩:=HO.out.clearF hij
    have HO5:=jq ho5;have HG5:=jq hg5;have HF:=jq (show zs.take i=xs.filter (fun x=> !p x) by have h:=HT.out;rwa [List.take_of_length_le (l:=xs) (by have:=HNX.out;omega)] at h);have HL:=jq (show(zs.take i).length=i by have:=HO.out.facts.1;rw[List.length_take];omega);have hb4:¬(c=i):=by omega
    have hb5:i<=j:=by omega
    have hb6:i<=c:=by omega
    have i1:(0:Int)<=(i:Int):=by omega
    have i2:(i:Int)<=(j:Int):=by omega
    clear ho5 hg5;go_wp2_with fail
    first|go_ret|skip
    exact⟨zs.take i,by rw[HL.out];rfl,HF.out,by rw[HL.out];exact HO5.out,Vx HG.out HG5.out⟩
end
section
attribute [local go_sem] Oper.semAt_some
attribute [local go_sem ↓] Qq QA
theorem ZdL(f:Fct)(v:FaV)(key:List UInt8)(bk:Nat)(W:World)(hb:Box W bk 9 (.string ⟨key.toArray⟩)):
 Calls Tryz.prog 68 (#[.agg (Qa f v)]++#[.pointer (some ⟨bk,0,none⟩)]) W fun e w'=>e=.returned (.bool (f.key==key))/\Below W.1.size W w':=by
 have HBL:=jq ((Below.refl W.1.size W).alloc (Nat.le_refl _) (.cells (Qa f v) 44));have c0:(W.alloc (.cells (Qa f v) 44)).cell? ⟨W.1.size,0,none⟩=some (.string ⟨f.key.toArray⟩):=(cell_of_row _ _ 0 _ _ _ (heap_alloc_new W _)).trans rfl;have ck:=(hb.alloc (.cells (Qa f v) 44)).cell;generalize Qa f v=fb at*;clear hb
 show Calls _ _ #[.agg fb,.pointer (some ⟨bk,0,none⟩)] _ _
 cases hk:(f.key==key)
 all_goals
  go_enter Tryz.func68,Tryz.ntmps68
  go_wp2_with fail
  first|go_ret|skip
  exact⟨rfl,HBL.out⟩
def YM(v:List Fct)(key:List UInt8):Value:=match YI v key with
 |some i=>.tuple #[.int .i64 (i:Nat),.bool true]
 |none=>.tuple #[.int .i64 0,.bool false]
theorem Zbz(A:Option Addr)(n c:Nat)(xs:List Fx)(key:List UInt8)(w:World)(hs:Fxs w w.1.size A n xs)(hn:n<=1000000000):
 Calls Tryz.prog 33 #[.slice A n c,.string ⟨key.toArray⟩] w fun e w'=>e=.returned (YM (xs.map (·.1)) key)/\Below w.1.size w w':=by
 have eg:∀args w,(callFunc 68 args).run Tryz.prog w=.ok (.enter 68 args) w:=enters_of Tryz.func68 (by kernel_rfl) rfl;have HBX:=jq (Box.new w 9 (.string ⟨key.toArray⟩));have HB0:=jq ((Below.refl w.1.size w).alloc (Nat.le_refl _) (.cells #[.string ⟨key.toArray⟩] 9))
 have HI:=jq (Yy 68 #[.pointer (some ⟨w.1.size,0,none⟩)] (fun x=>x.1.key==key) A n c xs (w.alloc (.cells #[.string ⟨key.toArray⟩] 9)) eg
  (fun W f v _ hb=>ZdL f v key w.1.size W (HBX.out.here hb)) (hs.here HB0.out) hn)
 have HF:=jq (show YI (xs.map (·.1)) key=xs.findIdx? (fun x=>x.1.key==key) by unfold YI;rw[List.findIdx?_map];rfl);have HZ:=jq (show VV (fun x:Fx=>x.1.key==key) xs=match xs.findIdx? (fun x=>x.1.key==key) with|some i=>(i:Int)|none=> -1 from rfl);generalize VV (fun x:Fx=>x.1.key==key) xs=z at*;clear hs eg HBX
 cases hi:xs.findIdx? (fun x=>x.1.key==key) with
 |none=>
  have HR:=jq (show YM (xs.map (·.1)) key=.tuple #[.int .i64 0,.bool false] by unfold YM;rw[HF.out,hi]);have hz:=HZ.out;rw[hi] at hz;simp only at hz
  subst hz;generalize YM (xs.map (·.1)) key=res at*;clear HF HZ hi;go_enter Tryz.func33,Tryz.ntmps33
  go_wp2_with (go_at_call 58;refine(HI.out).mono ?_;rintro e w' ⟨rfl,hb'⟩)
  go_ret2
  rw[HR.out];exact⟨rfl,HB0.out.trans (hb'.mono HB0.out.size)⟩
 |some i=>
  have HR:=jq (show YM (xs.map (·.1)) key=.tuple #[.int .i64 (i:Nat),.bool true] by unfold YM;rw[HF.out,hi]);have hz:=HZ.out;rw[hi] at hz;simp only at hz
  subst hz;generalize YM (xs.map (·.1)) key=res at*;have i1:(0:Int)<=(i:Int):=by omega
  have i2:¬(i:Int)<0:=by omega
  clear HF HZ hi;go_enter Tryz.func33,Tryz.ntmps33
  go_wp2_with (go_at_call 58;refine(HI.out).mono ?_;rintro e w' ⟨rfl,hb'⟩)
  go_ret2
  rw[HR.out];exact⟨rfl,HB0.out.trans (hb'.mono HB0.out.size)⟩
end
end Go.Proofs.YtbcnkcldlealjaaGreatDoor
