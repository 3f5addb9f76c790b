/- Base, Box, Ig, Rf, Dw, Cp. -/
import Derived.Test.YtkddgeclncafoaaGreatDoorProg
import Derived.WalkKit
import Derived.Deep.QuietTactic
import Derived.BigQuiet
import Derived.Lib.Hide
import Derived.Below
import Derived.Laws.OwnMore
import Derived.Deep.AppendLies
import Derived.Deep.Draws
import Derived.Laws.Rows
import Derived.KernelRfl
import Derived.RangeFuncNested
import Derived.RangeFuncCalls
import Derived.Calls
import Derived.Sort.Grow
import Derived.Laws.CopyOwn
import Derived.Lib.AppendZerosOnto
import Derived.Lib.AppendZeros
namespace Go.Proofs.YtkddgeclncafoaaGreatDoor
section
open Go.RowKit
theorem Qe{a b:Bool}(h:a=b):Ending.returned (.bool a)=.returned (.bool b):=by rw[h]
theorem Qb{k:IntKind}{a b:Int}(h:a=b):Ending.returned (.int k a)=.returned (.int k b):=by rw[h]
section
variable {α:Type}
def Sl(enc:α->List Value)(k:Nat)(w:World)(B:Nat)(A:Option Addr)(n:Nat)(xs:List α):Prop:=
 n=xs.length/\(0<n->∃b off,A=some ⟨b,off,none⟩/\b<B/\∀i x,xs[i]?=some x->∀j u,(enc x)[j]?=some u->w.cell? ⟨b,off+i*k+j,none⟩=some u)
def Own(enc:α->List Value)(k:Nat)(e:TypeId)(w:World)(base:Nat)(v:Value)(xs:List α):Prop:=
 w.ownsRow base e k v xs.length (xs.flatMap enc)
variable {enc:α->List Value} {k:Nat} {e:TypeId} {w w':World} {B B' n base:Nat} {A:Option Addr} {v:Value} {xs ys:List α}
theorem Sl.nil:Sl enc k w B A 0 ([]:List α):=⟨rfl,fun h=>absurd h (Nat.lt_irrefl 0)⟩
theorem Sl.len(h:Sl enc k w B A n xs):n=xs.length:=h.1
theorem Sl.at_{i:Nat}(h:Sl enc k w B A n xs)(hi:i<n):
 ∃b off x,A=some ⟨b,off,none⟩/\b<B/\xs[i]?=some x/\∀j u,(enc x)[j]?=some u->w.cell? ⟨b,off+i*k+j,none⟩=some u:=by
 obtain⟨b,off,e,hb,hc⟩:=h.2 (by omega)
 have hl:i<xs.length:=by have:=h.1;omega
 exact⟨b,off,xs[i],e,hb,List.getElem?_eq_getElem hl,hc i _ (List.getElem?_eq_getElem hl)⟩
theorem Sl.keep(h:Sl enc k w B A n xs)(hk:∀p:Addr,p.block<B->w'.cell? p=w.cell? p):Sl enc k w' B A n xs:=
 ⟨h.1,fun hn=>by
  obtain⟨b,off,e,hb,hc⟩:=h.2 hn
  exact⟨b,off,e,hb,fun i x hi j u hj=>(hk ⟨b,off+i*k+j,none⟩ hb).trans (hc i x hi j u hj)⟩⟩
theorem Sl.below(h:Sl enc k w B A n xs)(hb:Below B w w'):Sl enc k w' B A n xs:=h.keep fun _ hp=>hb.cell hp
theorem Sl.more(h:Sl enc k w B A n xs)(hB:B<=B'):Sl enc k w B' A n xs:=
 ⟨h.1,fun hn=>by
  obtain⟨b,off,e,hb,hc⟩:=h.2 hn
  exact⟨b,off,e,by omega,hc⟩⟩
theorem Sl.here(h:Sl enc k w w.1.size A n xs)(hb:Below w.1.size w w'):Sl enc k w' w'.1.size A n xs:=(h.below hb).more hb.size
theorem Zmj(he:∀x,(enc x).length=k)(xs:List α)(m:Nat)(u:Value)(h:(xs.flatMap enc)[m]?=some u):
 ∃i x j,xs[i]?=some x/\(enc x)[j]?=some u/\m=i*k+j:=by
 induction xs generalizing m with
 |nil=>simp at h
 |cons y ys ih=>
  rw[List.flatMap_cons] at h
  by_cases hm:m<k
  ·rw[List.getElem?_append_left (by rw[he];exact hm)] at h;exact⟨0,y,m,rfl,h,by simp⟩
  ·rw[List.getElem?_append_right (by rw[he];omega),he] at h;obtain⟨i,x,j,h1,h2,h3⟩:=ih _ h
   exact⟨i+1,x,j,by simpa using h1,h2,by rw[Nat.succ_mul];omega⟩
theorem VP(he:∀x,(enc x).length=k)(xs:List α):(xs.flatMap enc).length=xs.length*k:=by
 induction xs with
 |nil=>simp
 |cons y ys ih=>rw[List.flatMap_cons,List.length_append,ih,he,List.length_cons,Nat.succ_mul];omega
theorem ZaY(he:∀x,(enc x).length=k)(xs:List α)(i j:Nat)(x:α)(u:Value)(hi:xs[i]?=some x)(hj:(enc x)[j]?=some u):(xs.flatMap enc)[i*k+j]?=some u:=by
 induction xs generalizing i with
 |nil=>simp at hi
 |cons y ys ih=>
  have hjk:j<k:=by have:=(List.getElem?_eq_some_iff.1 hj).1;rw[he] at this;exact this
  cases i with
  |zero=>
   simp only[List.getElem?_cons_zero,Option.some.injEq] at hi;subst hi;rw[Nat.zero_mul,Nat.zero_add,List.flatMap_cons,List.getElem?_append_left (by rw[he];exact hjk)];exact hj
  |succ i=>
   rw[List.getElem?_cons_succ] at hi;rw[List.flatMap_cons,List.getElem?_append_right (by rw[he,Nat.succ_mul];omega),he];have:=ih i hi
   rwa [show(i+1)*k+j-k=i*k+j from by rw[Nat.succ_mul];omega]
theorem Sl.lit(w:World)(cs:Array Value)(e:TypeId)(xs:List α)(hc:cs.toList=xs.flatMap enc)(he:∀x,(enc x).length=k):
 Sl enc k (w.alloc (.cells cs e)) (w.1.size+1) (some ⟨w.1.size,0,none⟩) xs.length xs:=by
 refine⟨rfl,fun _=>⟨_,0,rfl,Nat.lt_succ_self _,fun i x hi j u hj=> ?_⟩⟩
 have hcell:(w.alloc (.cells cs e)).cell? ⟨w.1.size,0+i*k+j,none⟩=cs[0+i*k+j]?:=
  cell_of_row _ _ _ cs e (0,0) (heap_alloc_new w _)
 rw[hcell,Nat.zero_add,<-Array.getElem?_toList,hc];exact ZaY he xs i j x u hi hj
theorem Own.nil:Own enc k e w base (.slice none 0 0) ([]:List α):=World.ownsRow_nil w base e k
theorem Own.form(h:Own enc k e w base v xs):∃A c,v=.slice A xs.length c/\xs.length<=c/\c<=maxLen/\(A=none->c=0)/\(∀g,v.ownBlock=some g->A=some ⟨g,0,none⟩/\base<=g/\g<w.1.size):=by
 have hlt:=World.ownsRow.lt h
 rcases h.2 with ⟨rfl,h0⟩|⟨g,cap,cur,rfl,hb,hg,hc,hm,_⟩
 ·exact⟨none,0,by rw[h0],by omega,by simp[maxLen],fun _=>rfl,fun g hg=>by simp[Value.ownBlock] at hg⟩
 ·exact⟨_,cap,rfl,hc,hm,fun h=>(by cases h),fun g' hg'=>by
   have:=hlt g' hg'
   simp only[Value.ownBlock,Option.some.injEq] at hg';subst hg'
   exact⟨rfl,this⟩⟩
theorem Own.facts{c:Nat}(h:Own enc k e w base (.slice A n c) xs):n=xs.length/\xs.length<=c/\c<=maxLen/\((A=none/\c=0/\xs=[])\/∃g,A=some ⟨g,0,none⟩/\base<=g/\g<w.1.size):=by
 obtain⟨A',c',hv,h1,h2,h3,h4⟩:=h.form
 injection hv with e1 e2 e3;subst e1;subst e3
 refine⟨e2,h1,h2,?_⟩
 cases A with
 |none=>have:=h3 rfl;subst this;exact .inl ⟨rfl,rfl,List.eq_nil_of_length_eq_zero (by omega)⟩
 |some ad=>obtain⟨a1,a2,a3⟩:=h4 ad.block rfl;exact .inr ⟨_,a1,a2,a3⟩
theorem Own.sl(he:∀x,(enc x).length=k){c:Nat}(h:Own enc k e w base (.slice A n c) xs):Sl enc k w w.1.size A n xs:=by
 have hh:w.ownsRow base e k (.slice A n c) xs.length (xs.flatMap enc):=h
 have hn:n=xs.length:=by
  obtain⟨A',c',hv,_⟩:=h.form
  injection hv
 subst hn;refine⟨rfl,fun hn=> ?_⟩;obtain⟨g,cap,hv,_,hlt⟩:=World.ownsRow.form hh hn
 have hA:A=some ⟨g,0,none⟩:=by injection hv
 subst hA;refine⟨g,0,rfl,hlt,fun i x hi j u hj=> ?_⟩;have:=World.ownsRow.cells hh (g:=g) rfl (i*k+j) u (ZaY he xs i j x u hi hj)
 rw[Addr.add_lit] at this;rw[show 0+i*k+j=0+(i*k+j) from by omega];exact this
theorem Own.below(h:Own enc k e w base v xs)(hb:Below w.1.size w w'):Own enc k e w' base v xs:=by
 refine World.ownsRow.kept h (row:=none) ⟨hb.os,hb.tape,hb.output,hb.size,fun i hi _=>hb.block i hi⟩ ?_
 cases hv:v.ownBlock with
 |none=>exact .inl rfl
 |some g=>exact .inr (by simp)
theorem Own.alloc(h:Own enc k e w base v xs)(o:Obj):Own enc k e (w.alloc o) base v xs:=World.ownsRow.alloc h o
theorem Own.drew(h:Own enc k e w base v xs):Own enc k e w.drew base v xs:=h
theorem Own.drewN(h:Own enc k e w base v xs)(m:Nat):Own enc k e (w.drewN m) base v xs:=h
theorem Own.base_{base':Nat}(h:Own enc k e w base v xs)(hb:base'<=base):Own enc k e w base' v xs:=by
 refine⟨h.1,?_⟩
 rcases h.2 with h0|⟨g,cap,cur,hv,hbg,r⟩
 ·exact .inl h0
 ·exact .inr ⟨g,cap,cur,hv,Nat.le_trans hb hbg,r⟩
theorem Own.far(h:Own enc k e w base v xs){p:Addr}(hp:v.ownBlock≠some p.block)(u:Value):Own enc k e (w.setCell p u) base v xs:=by
 refine⟨h.1,?_⟩
 rcases h.2 with h0|⟨g,cap,cur,rfl,hbg,hg,r⟩
 ·exact .inl h0
 ·refine .inr ⟨g,cap,cur,rfl,hbg,?_,r⟩;rw[Below.heap_setCell w p u g (fun e=>hp (by simp[Value.ownBlock,e]))];exact hg
theorem Own.grown{row:Option Nat}(h:Own enc k e w base v xs)(hg:w.grownBy w' row)(hne:v.ownBlock=none\/v.ownBlock≠row):Own enc k e w' base v xs:=World.ownsRow.kept h hg hne
theorem ZjS(he:∀x,(enc x).length=k)(xs:List α)(i j:Nat)(x y:α)(u:Value)(hi:xs[i]?=some x)(hj:j<k)(hy:enc y=(enc x).set j u):
 (xs.set i y).flatMap enc=(xs.flatMap enc).set (i*k+j) u:=by
 induction xs generalizing i with
 |nil=>simp at hi
 |cons a xs ih=>
  cases i with
  |zero=>
   simp only[List.getElem?_cons_zero,Option.some.injEq] at hi;subst hi;rw[List.set_cons_zero,List.flatMap_cons,List.flatMap_cons,hy,Nat.zero_mul,Nat.zero_add,List.set_append_left _ _ (by rw[he];exact hj)]
  |succ i=>
   rw[List.getElem?_cons_succ] at hi;rw[List.set_cons_succ,List.flatMap_cons,List.flatMap_cons,ih i hi,List.set_append_right _ _ (by rw[he,Nat.succ_mul];omega),he];rw[show(i+1)*k+j-k=i*k+j from by rw[Nat.succ_mul];omega]
theorem Own.set_(he:∀x,(enc x).length=k){g c i j:Nat}{x y:α}{u:Value}(h:Own enc k e w base (.slice (some ⟨g,0,none⟩) n c) xs)(hi:xs[i]?=some x)(hj:j<k)(hy:enc y=(enc x).set j u):
 Own enc k e (w.setCell ⟨g,i*k+j,none⟩ u) base (.slice (some ⟨g,0,none⟩) n c) (xs.set i y):=by
 have hn:=h.facts.1;subst hn
 show World.ownsRow _ _ _ _ _ (xs.set i y).length ((xs.set i y).flatMap enc)
 rw[List.length_set,ZjS he xs i j x y u hi hj hy];exact(World.ownsRow.stored h (i*k+j) u).1
theorem Own.frozen{g c:Nat}(h:Own enc k e w base (.slice (some ⟨g,0,none⟩) n c) xs)(j:Nat):w.frozen? ⟨g,j,none⟩=false:=by
 have hn:=h.facts.1;subst hn;exact World.ownsRow.frozenAt h j
theorem ZiA(he:∀x,(enc x).length=k)(xs:List α)(m:Nat):(xs.take m).flatMap enc=(xs.flatMap enc).take (m*k):=by
 induction xs generalizing m with
 |nil=>simp
 |cons a xs ih=>
  cases m with
  |zero=>simp
  |succ m=>rw[List.take_succ_cons,List.flatMap_cons,List.flatMap_cons,ih m,List.take_append,he,List.take_of_length_le (l:=enc a) (by rw[he,Nat.succ_mul];omega),show(m+1)*k-k=m*k from by rw[Nat.succ_mul];omega]
theorem Own.shrink(he:∀x,(enc x).length=k){g c m:Nat}(h:Own enc k e w base (.slice (some ⟨g,0,none⟩) n c) xs)(hm:m<=xs.length):Own enc k e w base (.slice (some ⟨g,0,none⟩) m c) (xs.take m):=by
 have hn:=h.facts.1;subst hn;have hl:(xs.take m).length=m:=by rw[List.length_take];omega
 refine⟨by rw[VP he],?_⟩
 rcases h.2 with ⟨h0,_⟩|⟨g',cap,cur,hv,hb,hg,hnc,hcm,hcs,ht⟩
 ·cases h0
 ·injection hv with a1 a2 a3;injection a1 with a1;injection a1 with a1;subst a1;subst a3
  refine .inr ⟨g,c,cur,by rw[hl],hb,hg,by omega,hcm,hcs,?_⟩;rw[ZiA he,hl,<-ht,List.take_take];rw[Nat.min_eq_left (Nat.mul_le_mul_right _ hm)]
theorem Own.ne{β:Type}{enc':β->List Value}{k' base':Nat}{e':TypeId}{v':Value}{ys':List β}(h:Own enc k e w base v xs)(h':Own enc' k' e' w base' v' ys')(hne:e≠e'):v.ownBlock=none\/v.ownBlock≠v'.ownBlock:=by
 rcases h.2 with ⟨rfl,_⟩|⟨g,cap,cur,rfl,_,hg,_⟩
 ·exact .inl rfl
 ·right
  rcases h'.2 with ⟨rfl,_⟩|⟨g',cap',cur',rfl,_,hg',_⟩
  ·simp[Value.ownBlock]
  ·intro hh;simp only[Value.ownBlock,Option.some.injEq] at hh;subst hh;rw[hg] at hg';injection hg' with hg'
   injection hg' with _ ht
   exact hne ht
def Jz(P:Program)(t e:TypeId)(k bytes:Nat):Prop:=
 ∃i z,P.underlying t=some (.slice e)/\P.info? e=some i/\i.zero=some z/\i.size=k/\i.bytes=bytes/\z.cells.size=k/\0<k/\bytes<=1024
theorem VQ{P:Program}{t e:TypeId}{k bytes:Nat}(hu:P.underlying t=some (.slice e))(h:(P.info? e).map (fun i=>(i.zero.map (fun z=>z.cells.size),i.size,i.bytes))=some (some k,k,bytes))(hk:0<k)(hb:bytes<=1024):Jz P t e k bytes:=by
 cases hi:P.info? e with
 |none=>rw[hi] at h;cases h
 |some i=>
  rw[hi] at h;simp only[Option.map_some,Option.some.injEq,Prod.mk.injEq] at h;obtain⟨h1,h2,h3⟩:=h
  cases hz:i.zero with
  |none=>rw[hz] at h1;cases h1
  |some z=>
   rw[hz] at h1;simp only[Option.map_some,Option.some.injEq] at h1;exact⟨i,z,hu,hi,hz,h2,h3,h1,hk,hb⟩
section
variable {P:Program} (w:World)
theorem ZhM(t ty:TypeId){bytes:Nat}(hT:Jz P t e k bytes)(he:∀x,(enc x).length=k)(h1:∀x,∀u∈enc x,u.oneCell'=true)
 (v:Value) (xs:List α) (hown:Own enc k e w base v xs) (B:Nat) (A:Option Addr) (m c:Nat) (ys:List α) (hr:Sl enc k w B A m ys)
 (hlen:xs.length+m<=100000000000) (hbase:base<=w.1.size):
 ∃A' c' w',(Builtin.append_ #[t,t] ty #[v,.slice A m c]).run P w=.ok (.slice A' (xs.length+m) c') w'/\Own enc k e w' base (.slice A' (xs.length+m) c') (xs++ys)/\w.grownBy w' v.ownBlock/\
  (A'.map Addr.block=v.ownBlock\/A'.map Addr.block=some w.1.size):=by
 obtain⟨i,z,ht,hi,hz,hsize,hby,hzs,hsz,hb⟩:=hT
 have hown':w.ownsRow base e k v xs.length (xs.flatMap enc):=hown
 by_cases hm:m=0
 ·subst hm;obtain rfl:ys=[]:=List.eq_nil_of_length_eq_zero hr.1.symm;obtain⟨A0,c0,rfl,hc0,_⟩:=hown.form
  have hrun:(Builtin.append_ #[t,t] ty #[.slice A0 xs.length c0,.slice A 0 c]).run P w=.ok (.slice A0 xs.length c0) w:=by
   rcases hown.2 with ⟨hv,h0⟩|⟨g,cap,cur,hv,_,hg,hnc,hcm,hcs,_⟩
   ·injection hv with a1 a2 a3;subst a1;subst a3
    rw[h0]
    cases A<;>simp[Builtin.append_,run_underlying ht,sizeOf,typeInfo,hi,Builtin.lenOf,Builtin.firstCells,loadCells,loadCellsFrom,Result.andThen]
   ·injection hv with a1 a2 a3;subst a1;subst a3
    cases A<;>simp[Builtin.append_,run_underlying ht,sizeOf,typeInfo,hi,Builtin.lenOf,Builtin.firstCells,loadCells,loadCellsFrom,Result.andThen,hnc,storeCells]
  exact⟨A0,c0,w,hrun,by simpa using hown,World.grownBy.refl w _,.inl (by cases A0<;>rfl)⟩
 ·obtain⟨b,off,rfl,hbB,hc⟩:=hr.2 (by omega)
  have hl:(ys.flatMap enc).length=m*k:=by rw[VP he,hr.1]
  have hnews:∀j u,(ys.flatMap enc)[j]?=some u->w.cell? ((⟨b,off,none⟩:Addr).add j)=some u:=by
   intro j u hu;obtain⟨i',x,j',hi',hj',rfl⟩:=Zmj he ys j u hu
   have:=hc i' x hi' j' u hj'
   unfold Addr.add
   split
   ·rename_i h0;rw[Nat.add_assoc,h0] at this;exact this
   ·rw[<-Nat.add_assoc];exact this
  have hone:∀u∈ys.flatMap enc,u.oneCell'=true:=by
   intro u hu;rw[List.mem_flatMap] at hu;obtain⟨x,_,hx⟩:=hu
   exact h1 x u hx
  have hbt:(xs.length+m)*bytes<=140737488355328:=Nat.le_trans (Nat.mul_le_mul hlen hb) (by decide);obtain⟨v',w',hrun,h2,h3,_,h5⟩:=run_append_own_at (P:=P) w base t ty e i z k bytes ht hi hz hsize hby hzs hsz v xs.length (xs.flatMap enc) hown' ⟨b,off,none⟩ m c (ys.flatMap enc) hl hnews hone (by unfold maxLen;omega) hbt hbase
  have hO:Own enc k e w' base v' (xs++ys):=by
   show w'.ownsRow base e k v' (xs++ys).length ((xs++ys).flatMap enc)
   rw[List.length_append,<-hr.1,List.flatMap_append];exact h2
  obtain⟨A',c',hv',_⟩:=hO.form
  rw[List.length_append,<-hr.1] at hv';subst hv'
  refine⟨A',c',w',hrun,hO,h3,?_⟩
  rcases h5 with h5|h5
  ·left;rw[<-h5];cases A'<;>rfl
  ·right;rw[<-h5];cases A'<;>rfl
theorem ZjT{o:Oper}{a:Act}{K:Act->World->Prop}{Q:Exit->Act->World->Prop}(s x:Operand)(t:TypeId)
 (ho:o.op=.call {callee:=.builtin .append,args:=#[s,x],argTypes:=#[t,t]}) {bytes:Nat} (hT:Jz P t e k bytes) (he:∀x,(enc x).length=k) (h1:∀x,∀u∈enc x,u.oneCell'=true)
 (v:Value) (xs:List α) (hs:a.eval s=v) (hown:Own enc k e w base v xs) (B:Nat) (A:Option Addr) (m c:Nat) (ys:List α) (hx:a.eval x=.slice A m c) (hr:Sl enc k w B A m ys)
 (hlen:xs.length+m<=100000000000) (hbase:base<=w.1.size)
 (h:∀A' c' w',Own enc k e w' base (.slice A' (xs.length+m) c') (xs++ys)->w.grownBy w' v.ownBlock->(A'.map Addr.block=v.ownBlock\/A'.map Addr.block=some w.1.size)->K (a.put o.dst (.slice A' (xs.length+m) c')) w'):o.wp P a w K Q:=by
 obtain⟨A',c',w',hrun,h2,h3,h4⟩:=ZhM (P:=P) w t o.type hT he h1 v xs hown B A m c ys hr hlen hbase
 unfold Oper.wp execOp;simp only[ho,resolve,invoke,builtin,Sem.run_bind,Sem.run_pure,Result.andThen_ok,List.map_toArray,List.map_cons,List.map_nil,hs,hx,hrun];exact h A' c' w' h2 h3 h4
theorem Xa{ops:Array Oper}{rest:List Oper}{o:Oper}{a:Act}{Q:Exit->Act->World->Prop}(hgd:o.guard=none)(s x:Operand)(t:TypeId)
 (ho:o.op=.call {callee:=.builtin .append,args:=#[s,x],argTypes:=#[t,t]}) {bytes:Nat} (hT:Jz P t e k bytes) (he:∀x,(enc x).length=k) (h1:∀x,∀u∈enc x,u.oneCell'=true)
 (v:Value) (xs:List α) (hs:a.eval s=v) (hown:Own enc k e w base v xs) (B:Nat) (A:Option Addr) (m c:Nat) (ys:List α) (hx:a.eval x=.slice A m c) (hr:Sl enc k w B A m ys)
 (hlen:xs.length+m<=100000000000) (hbase:base<=w.1.size)
 (h:∀A' c' w',Own enc k e w' base (.slice A' (xs.length+m) c') (xs++ys)->w.grownBy w' v.ownBlock->(A'.map Addr.block=v.ownBlock\/A'.map Addr.block=some w.1.size)->wpList P ops Q rest (a.put o.dst (.slice A' (xs.length+m) c')) w'):wpList P ops Q (o::rest) a w:=
 wpList_plain hgd fun _ hK=>ZjT w s x t ho hT he h1 v xs hs hown B A m c ys hx hr hlen hbase fun A' c' w' h2 h3 h4=>hK _ _ (h A' c' w' h2 h3 h4)
theorem ZaZ{ops:Array Oper}{o:Oper}{a:Act}{K:Act->World->Prop}{Q:Exit->Act->World->Prop}{E:Prop}(hgd:o.guard=none)(s x:Operand)(t:TypeId)
 (ho:o.op=.call {callee:=.builtin .append,args:=#[s,x],argTypes:=#[t,t]}) {bytes:Nat} (hT:Jz P t e k bytes) (he:∀x,(enc x).length=k) (h1:∀x,∀u∈enc x,u.oneCell'=true)
 (v:Value) (xs:List α) (hs:a.eval s=v) (hown:Own enc k e w base v xs) (B:Nat) (A:Option Addr) (m c:Nat) (ys:List α) (hx:a.eval x=.slice A m c) (hr:Sl enc k w B A m ys)
 (hlen:xs.length+m<=100000000000) (hbase:base<=w.1.size)
 (h:∀A' c' w',Own enc k e w' base (.slice A' (xs.length+m) c') (xs++ys)->w.grownBy w' v.ownBlock->(A'.map Addr.block=v.ownBlock\/A'.map Addr.block=some w.1.size)->K (a.put o.dst (.slice A' (xs.length+m) c')) w'):
 if Region.wanted o (yielded ops a.tmps)=true then Oper.wp P o a w K Q else E:=by
 have hw:Region.wanted o (yielded ops a.tmps)=true:=by simp[Region.wanted,hgd]
 rw[if_pos hw];exact ZjT w s x t ho hT he h1 v xs hs hown B A m c ys hx hr hlen hbase h
end
theorem bdN{B:Nat}{w0 w1:World}(h:Below B w0 w1)(n:Nat):Below B w0 (w1.drewN n):=⟨h.os,h.tape,h.output,h.size,h.block⟩
theorem Qy{B:Nat}{w0 w1 w2:World}{row:Option Nat}(h:Below B w0 w1)(hg:w1.grownBy w2 row)(hB:B<=w1.1.size)(hr:∀g,row=some g->B<=g):Below B w0 w2:=h.grown hg hB hr
theorem Own.lit(w:World)(cs:Array Value)(e:TypeId)(xs:List α)(hc:cs.toList=xs.flatMap enc)(he:∀x,(enc x).length=k)(hb:base<=w.1.size)(hm:xs.length<=maxLen):
 Own enc k e (w.alloc (.cells cs e)) base (.slice (some ⟨w.1.size,0,none⟩) xs.length xs.length) xs:=by
 have hsz:cs.size=xs.length*k:=by rw[<-VP he xs,<-hc];simp
 refine⟨VP he xs,.inr ⟨w.1.size,xs.length,cs,rfl,hb,heap_alloc_new w _,Nat.le_refl _,hm,hsz,?_⟩⟩;rw[hc,<-VP he xs,List.take_length]
theorem Sl.take(h:Sl enc k w B A n xs){m:Nat}(hm:m<=n):Sl enc k w B A m (xs.take m):=
 ⟨by rw[List.length_take];have:=h.1;omega,fun hn=>by
  obtain⟨b,off,e,hb,hc⟩:=h.2 (by omega)
  refine⟨b,off,e,hb,fun i x hi j u hj=>hc i x ?_ j u hj⟩;have hi':=(List.getElem?_eq_some_iff.1 hi).1;rw[List.length_take] at hi';rw[List.getElem?_take_of_lt (by omega)] at hi;exact hi⟩
theorem Sl.drop{b off:Nat}(h:Sl enc k w B (some ⟨b,off,none⟩) n xs){m:Nat}(hm:m<=n):Sl enc k w B (some ⟨b,off+m*k,none⟩) (n-m) (xs.drop m):=
 ⟨by rw[List.length_drop];have:=h.1;omega,fun hn=>by
  obtain⟨b',off',e,hb,hc⟩:=h.2 (by omega)
  injection e with e;injection e with e1 e2;subst e1;subst e2
  refine⟨b,off+m*k,rfl,hb,fun i x hi j u hj=> ?_⟩;rw[List.getElem?_drop] at hi;have:=hc (m+i) x hi j u hj
  rwa [Nat.add_mul,<-Nat.add_assoc] at this⟩
theorem Sl.grown{row:Option Nat}(h:Sl enc k w B A n xs)(hg:w.grownBy w' row)(hB:B<=w.1.size)(hr:∀g,row=some g->B<=g):Sl enc k w' B A n xs:=
 h.keep fun p hp=>World.cell?_of_block (hg.block p.block (by omega) (fun e=>by have:=hr _ e.symm;omega))
theorem Sl.drewN(h:Sl enc k w B A n xs)(m:Nat):Sl enc k (w.drewN m) B A n xs:=h
theorem Sl.drew(h:Sl enc k w B A n xs):Sl enc k w.drew B A n xs:=h
theorem Sl.alloc(h:Sl enc k w B A n xs)(hB:B<=w.1.size)(o:Obj):Sl enc k (w.alloc o) B A n xs:=h.keep fun p hp=>World.cell?_alloc_lt w o p (by omega)
def RetOwn(enc:α->List Value)(k:Nat)(e:TypeId)(base:Nat)(w:World)(xs:List α)(en:Ending)(w':World):Prop:=
 ∃A c,en=.returned (.slice A xs.length c)/\Own enc k e w' base (.slice A xs.length c) xs/\Below w.1.size w w'
def RetOwn2(enc:α->List Value)(k:Nat)(e:TypeId)(base:Nat)(w:World)(r:List α×Int)(en:Ending)(w':World):Prop:=
 ∃A c,en=.returned (.tuple #[.slice A r.1.length c,.int .i64 r.2])/\Own enc k e w' base (.slice A r.1.length c) r.1/\Below w.1.size w w'
theorem RetOwn2.mk{A:Option Addr}{c:Nat}{er:Int}{r:List α×Int}{en:Ending}(h:en=.returned (.tuple #[.slice A n c,.int .i64 er]))(hr:r=(xs,er))(ho:Own enc k e w' base (.slice A n c) xs)(hb:Below w.1.size w w'):RetOwn2 enc k e base w r en w':=by
 obtain⟨A',c',hv,_⟩:=ho.form
 injection hv with _ hn _;subst hn;subst hr
 exact⟨A,c,h,ho,hb⟩
theorem RetOwn.mk{A:Option Addr}{c:Nat}{en:Ending}(h:en=.returned (.slice A n c))(ho:Own enc k e w' base (.slice A n c) xs)(hb:Below w.1.size w w'):RetOwn enc k e base w xs en w':=by
 obtain⟨A',c',hv,_⟩:=ho.form
 injection hv with _ hn _;subst hn;exact⟨A,c,h,ho,hb⟩
end
end
section
open Go.RowKit
def Box(w:World)(B:Nat)(t:TypeId)(v:Value):Prop:=w.heap[B]?=some (.cells #[v] t (0,0))
section
variable {w w':World} {B B':Nat} {t t':TypeId} {v u:Value}
theorem Box.lt(h:Box w B t v):B<w.1.size:=(Array.getElem?_eq_some_iff.1 h).1
theorem Box.cell(h:Box w B t v):w.cell? ⟨B,0,none⟩=some v:=by
 have:=cell_of_row w B 0 #[v] t (0,0) h
 simpa using this
theorem Box.frozen(h:Box w B t v):w.frozen? ⟨B,0,none⟩=false:=by
 unfold Box at h;simp[World.frozen?,h]
theorem Box.new(w:World)(t:TypeId)(v:Value):Box (w.alloc (.cells #[v] t)) w.1.size t v:=heap_alloc_new w _
theorem Box.drew(h:Box w B t v):Box w.drew B t v:=h
theorem Box.drewN(h:Box w B t v)(n:Nat):Box (w.drewN n) B t v:=h
theorem Box.alloc(h:Box w B t v)(o:Obj):Box (w.alloc o) B t v:=(Below.heap_alloc w o B h.lt).trans h
theorem Box.set_(h:Box w B t v)(u:Value):Box (w.setCell ⟨B,0,none⟩ u) B t u:=by
 unfold Box at h ⊢;simp[World.setCell,Array.getElem?_modify,h]
theorem Box.far(h:Box w B t v){p:Addr}(hp:B≠p.block)(u:Value):Box (w.setCell p u) B t v:=(Below.heap_setCell w p u B hp).trans h
theorem Box.below{n:Nat}(h:Box w B t v)(hb:Below n w w')(hg:B<n):Box w' B t v:=(hb.block B hg).trans h
theorem Box.here(h:Box w B t v)(hb:Below w.1.size w w'):Box w' B t v:=h.below hb h.lt
theorem Box.grown{row:Option Nat}(h:Box w B t v)(hb:w.grownBy w' row)(hg:some B≠row):Box w' B t v:=(hb.block B h.lt hg).trans h
theorem Box.ne(h:Box w B t v)(h':Box w B' t' u)(hne:t≠t'):B≠B':=by
 rintro rfl;unfold Box at h h';rw[h] at h';injection h' with h'
 injection h' with _ ht
 exact hne ht
theorem Own.neBox{α:Type}{enc:α->List Value}{k base:Nat}{e:TypeId}{x:Value}{xs:List α}(h:Own enc k e w base x xs)(hb:Box w B t u)(hne:e≠t):some B≠x.ownBlock:=by
 rcases h.2 with ⟨rfl,_⟩|⟨g,cap,cur,rfl,_,hg,_⟩
 ·simp[Value.ownBlock]
 ·intro hh;simp only[Value.ownBlock,Option.some.injEq] at hh;subst hh;unfold Box at hb;rw[hg] at hb;injection hb with hb;injection hb with _ ht;exact hne ht
end
end
section
open Go.RowKit
section
variable {α:Type} {p:α->Bool} {xs:List α}
def Zb6(p:α->Bool)(xs:List α):Int:=match xs.findIdx? p with|some i=>(i:Int)|none=> -1
theorem Zco{j:Nat}{r:α}(h:xs[j]?=some r)(hr:p r=true)(hn:(xs.take j).any p=false):Zb6 p xs=j:=by
 unfold Zb6
 have:xs.findIdx? p=some j:=by
  rw[List.findIdx?_eq_some_iff_getElem];obtain⟨hj,rfl⟩:=List.getElem?_eq_some_iff.1 h
  refine⟨hj,hr,fun i hi=> ?_⟩;rw[List.any_eq_false] at hn;have:=hn xs[i] (by rw[List.mem_take_iff_getElem];exact⟨i,by omega,rfl⟩)
  simpa using this
 rw[this]
theorem Zah(hn:xs.any p=false):Zb6 p xs= -1:=by
 unfold Zb6
 have:xs.findIdx? p=none:=by
  rw[List.findIdx?_eq_none_iff];intro x hx;rw[List.any_eq_false] at hn;simpa using hn x hx
 rw[this]
theorem JD(p:α->Bool)(xs:List α):decide (0<=Zb6 p xs)=xs.any p:=by
 cases h:xs.any p with
 |false=>rw[Zah h];rfl
 |true=>
  rw[List.any_eq_true] at h;obtain⟨x,hx,hp⟩:=h
  unfold Zb6
  cases hf:xs.findIdx? p with
  |none=>rw[List.findIdx?_eq_none_iff] at hf;rw[hf x hx] at hp;cases hp
  |some i=>simp
theorem VR{j:Nat}{r:α}(h:xs[j]?=some r)(hn:(xs.take j).any p=false)(hr:p r=false):(xs.take (j+1)).any p=false:=by
 obtain⟨hj,rfl⟩:=List.getElem?_eq_some_iff.1 h
 rw[List.take_succ_eq_append_getElem hj,List.any_append,hn];simp[hr]
end
end
section
open Go.RowKit
def Kp2(p q:Nat)(W W':World):Prop:=Below 0 W W'/\∀b,b<W.1.size->b≠p->b≠q->W'.heap[b]?=W.heap[b]?
theorem Kp2.refl(p q:Nat)(W:World):Kp2 p q W W:=⟨Below.refl _ _,fun _ _ _ _=>rfl⟩
theorem Kp2.size{p q:Nat}{A B:World}(h:Kp2 p q A B):A.1.size<=B.1.size:=h.1.size
theorem Kp2.trans{p q:Nat}{A B C:World}(h:Kp2 p q A B)(k:Kp2 p q B C):Kp2 p q A C:=
 ⟨h.1.trans k.1,fun b hb h1 h2=>(k.2 b (Nat.lt_of_lt_of_le hb h.size) h1 h2).trans (h.2 b hb h1 h2)⟩
theorem Kp2.below{p q:Nat}{A B:World}(h:Below A.1.size A B):Kp2 p q A B:=⟨h.mono (Nat.zero_le _),fun b hb _ _=>h.block b hb⟩
theorem Kp2.set1{p q:Nat}{A B:World}(h:Kp2 p q A B)(j:Nat)(u:Value):Kp2 p q A (B.setCell ⟨p,j,none⟩ u):=
 ⟨h.1.setCell (Nat.zero_le _) _,fun b hb h1 h2=>(Below.heap_setCell B ⟨p,j,none⟩ u b h1).trans (h.2 b hb h1 h2)⟩
theorem Kp2.set2{p q:Nat}{A B:World}(h:Kp2 p q A B)(j:Nat)(u:Value):Kp2 p q A (B.setCell ⟨q,j,none⟩ u):=
 ⟨h.1.setCell (Nat.zero_le _) _,fun b hb h1 h2=>(Below.heap_setCell B ⟨q,j,none⟩ u b h2).trans (h.2 b hb h1 h2)⟩
theorem Kp2.put{p q:Nat}{A B:World}(h:Kp2 p q A B)(o:Obj):Kp2 p q A (B.putObj q o):=
 ⟨h.1.grown (grownBy_putObj' B q o) (Nat.zero_le _) (fun _ _=>Nat.zero_le _),fun b hb h1 h2=>(World.putObj_heap_other (by omega)).trans (h.2 b hb h1 h2)⟩
theorem Kp2.under{p q N:Nat}{A B C:World}(h:Kp2 p q B C)(hb:Below N A B)(hN:N<=B.1.size)(hp:N<=p)(hq:N<=q):Below N A C:=
 ⟨h.1.os.trans hb.os,h.1.tape.trans hb.tape,h.1.output.trans hb.output,Nat.le_trans hb.size h.size,fun b hb'=>(h.2 b (by omega) (by omega) (by omega)).trans (hb.block b hb')⟩
theorem Kp2.drew{p q:Nat}{A B:World}(h:Kp2 p q A B):Kp2 p q A B.drew:=⟨h.1.drew,h.2⟩
theorem Kp2.box{p q b:Nat}{t:TypeId}{v:Value}{A B:World}(h:Kp2 p q A B)(hb:Box A b t v)(h1:b≠p)(h2:b≠q):Box B b t v:=(h.2 b hb.lt h1 h2).trans hb
theorem Zau{F:Fence}{n:Nat}{P:Program}{g:Operand}{ps:Array Tmp}{assign body:Code}{Q:Exit->Act->World->Prop}{a:Act}{w:World}
 (hro:F.round=none) (h1:1<=n) {gf:Nat} {lb:Array Value} (hg:a.eval g=.func (.func gf) #[] lb) (hFg:F.fn gf) (eg:∀args w,(callFunc gf args).run P w=.ok (.enter gf args) w)
 (po:Nat) (hpo:po<w.1.size) (Ki:World->World->Prop) (T:Value->World->Prop)
 (hKi:∀A B,Ki A B->∀b,w.1.size<=b->b<A.1.size->B.heap[b]?=A.heap[b]?)
 (s0:Value)
 (hseq:∀(l:Nat) (J:Value->World->Prop) (W:World),w.1.size<=l->Below w.1.size w W->(∀s A B,J s A->Ki A B->J s B)->(∀s A,J s A->∃r,A.heap[l]?=some (.loop r))->(∀s A,J s A->∃t v,Box A po t v/\(∃B m c,v=.slice B m c))->
   (∀s B m c y W1,J s W1->YieldAt F (n-1-1) P l #[.slice B m c,y] W1 fun e W'=>e=.returned (.bool true)/\J (.slice B m c) W'/\Kp2 po l W1 W')->J s0 W->
   CallsIn F (n-1) P gf (#[.func (.yield l) #[] #[]]++lb) W fun e W'=>(∃v,e=.returned v)/\∃s,J s W'/\T s W')
 (hps:ps.size=2)
 (I:Value->World->Prop) (hI:∀s A B,I s A->Ki A B->I s B) (hIb:∀s A,I s A->∃t v,Box A po t v/\(∃B m c,v=.slice B m c)) (hIp:∀s A B l,w.1.size<=l->I s A->Kp2 l l A B->I s B) (h0:I s0 w)
 (ax:Value->Value->Act)
 (hassign:∀(l:Nat) (x y:Value) (W:World) (K:Act->World->Prop),K (ax x y) W->
   assign.wpIn (F.inRound l) (n-1-1) P (Exit.then K (fun _ _ _=>False)) {tmps:=(ps.zip #[x,y]).foldl (fun t (p,v)=>t.setIfInBounds p v) a.tmps,defers:=[]} W)
 (hbody:∀(l:Nat) (s:Value) (B:Option Addr) (m c:Nat) (y:Value) (W:World),w.1.size<=l->I s W->body.wpIn (F.inRound l) (n-1-1) P (fun e _ W'=>e=.normal/\Kp2 po po W W'/\I (.slice B m c) W') (ax (.slice B m c) y) W)
 (hdone:∀(D:Nat) (s:Value) (W W0:World),w.1.size<=D->I s W->T s W0->Kp2 (w.1.size+1) (w.1.size+1) W0 W->(∃r,W0.heap[w.1.size+1]?=some (.loop r))->W.heap[D]?=some (.deferred (some []))->Q .normal {a with defers:={target:=.collected D,args:=#[]}::a.defers} W):
 (Code.rangeFunc g ps assign body).wpIn F n P Q a w:=by
 refine wpIn_rangeFunc ?_;intro fn hfn;rw[hro];obtain⟨rec,hrec⟩:∃rec:LoopState->Option Code->Loop,rec=fun st pe=>{state:=st,pending:=pe,fn,tmps:=a.tmps,params:=ps,assign,body,defers:=w.1.size}:=⟨_,rfl⟩
 obtain⟨W1,hW1⟩:∃W1,(w.alloc (.deferred (some []))).alloc (.loop (rec .ready none))=W1:=⟨_,rfl⟩
 have hL1:W1.heap[w.1.size+1]?=some (.loop (rec .ready none)):=by
  rw[<-hW1];have:=World.alloc_heap_new (w.alloc (.deferred (some []))) (.loop (rec .ready none));rwa [World.size_alloc] at this
 have hK1:W1.heap[w.1.size]?=some (.deferred (some [])):=by
  rw[<-hW1];exact(Below.heap_alloc _ _ _ (by simp)).trans (World.alloc_heap_new w _)
 have hb1:Below w.1.size w W1:=by
  rw[<-hW1];exact((Below.refl _ w).alloc (Nat.le_refl _) _).alloc (by simp) _
 have hI1:I s0 W1:=hIp s0 w W1 w.1.size (Nat.le_refl _) h0 (Kp2.below hb1)
 refine⟨w.1.size+1,[{target:=.collected w.1.size,args:=#[]}],W1,{target:=.fn (.func gf) lb,args:=#[.func (.yield (w.1.size+1)) #[] #[]]},W1,gf,
  #[.func (.yield (w.1.size+1)) #[] #[]]++lb,W1,?_,?_,?_,?_,fun _=>h1,?_⟩
 ·rw[<-hW1,hrec];exact run_enterLoop_outer _ _ _ _ _
 ·simp only[resolve,hg];simp[go_sem]
 ·intro f' hf';simp[Target.leads] at hf';subst hf';exact hFg
 ·simp[invoke,go_sem,eg]
 ·refine(hseq (w.1.size+1)
   (fun s W=>I s W/\W.heap[w.1.size+1]?=some (.loop (rec .ready none))/\W.heap[w.1.size]?=some (.deferred (some [])))
   W1 (by omega) hb1 ?_ (fun s A h=>⟨_,h.2.1⟩) (fun s A h=>hIb s A h.1) ?_ ⟨hI1,hL1,hK1⟩).mono ?_
  ·rintro s A B ⟨h,hl,hk⟩ hki;exact⟨hI s A B h hki,(hKi A B hki _ (by omega) (Array.getElem?_eq_some_iff.1 hl).1).trans hl,(hKi A B hki _ (Nat.le_refl _) (Array.getElem?_eq_some_iff.1 hk).1).trans hk⟩
  ·rintro s B m c y W ⟨hi,hl,hk⟩;have hlt:w.1.size+1<W.1.size:=(Array.getElem?_eq_some_iff.1 hl).1;have hy:=run_yield (P:=P) (args:=#[.slice B m c,y]) hl (by rw[hrec];exact hps.symm);rw[hrec] at hy;refine⟨fn,_,assign,body,hy,roundIn_of_wpIn hfn (hassign _ (.slice B m c) y W _ ?_)⟩;clear hy;refine⟨_,run_beginRound hl (by rw[hrec]),?_⟩;have hl2:(W.putObj (w.1.size+1) (.loop {rec .ready none with state:=.busy})).heap[w.1.size+1]?=some (.loop {rec .ready none with state:=.busy}):=World.putObj_heap_same hlt;have hk2:(W.putObj (w.1.size+1) (.loop {rec .ready none with state:=.busy})).heap[w.1.size]?=some (.deferred (some [])):=(World.putObj_heap_other (by omega)).trans hk;have hkp:Kp2 (w.1.size+1) (w.1.size+1) W (W.putObj (w.1.size+1) (.loop {rec .ready none with state:=.busy})):=(Kp2.refl _ _ _).put _;have hi2:=hIp s _ _ _ (by omega) hi hkp;refine wpIn_mono (hbody _ s B m c y _ (by omega) hi2) ?_;rintro e a3 W3 ⟨rfl,hk3,hi3⟩;have hl3:=(hk3.2 (w.1.size+1) (by simpa[World.putObj] using hlt) (by omega) (by omega)).trans hl2;have hkk3:=(hk3.2 w.1.size (by simp[World.putObj];omega) (by omega) (by omega)).trans hk2;have hr:=run_endRound (P:=P) none hl3;refine⟨_,_,hr,rfl,⟨hIp _ _ _ _ (by omega) hi3 ((Kp2.refl (w.1.size+1) (w.1.size+1) W3).put _),?_,?_⟩,?_⟩
   ·rw[World.putObj_heap_same (Array.getElem?_eq_some_iff.1 hl3).1,hrec];rfl
   ·exact(World.putObj_heap_other (by omega)).trans hkk3
   ·have e1:Kp2 po (w.1.size+1) W (W.putObj (w.1.size+1) (.loop {rec .ready none with state:=.busy})):=(Kp2.refl _ _ _).put _;have e2:Kp2 po (w.1.size+1) (W.putObj (w.1.size+1) (.loop {rec .ready none with state:=.busy})) W3:=⟨hk3.1,fun b hb hb1 _=>hk3.2 b hb hb1 hb1⟩;exact(e1.trans e2).put _
  ·rintro e W2 ⟨⟨v,rfl⟩,s,⟨hi,hl,hk⟩,ht⟩;refine⟨none,_,by have:=run_endLoop (P:=P) hl (by rw[hrec];simp);rw[hrec] at this;exact this,hdone _ s _ W2 (Nat.le_refl _) (hIp s _ _ _ (by omega) hi ((Kp2.refl (w.1.size+1) (w.1.size+1) W2).put _)) ht ((Kp2.refl (w.1.size+1) (w.1.size+1) W2).put _) ⟨_,hl⟩ ((World.putObj_heap_other (by omega)).trans hk)⟩
end
section
open Go
def Rge{α:Type}(d:Nat):Result α->Prop
 | .ok _ w=>d<=w.drawn
 | .halt _ w=>d<=w.drawn
theorem Zn1{α:Type}(q:Ask α)(w:World):w.drawn<=(w.ask q).2.drawn:=by
 induction q generalizing w with
 |done a=>simp[World.ask]
 |ask what range k ih=>
  simp only[World.ask]
  split
  ·exact ih _ _
  ·exact Nat.le_trans (Nat.le_succ _) (ih _ {w with drawn:=w.drawn+1})
theorem ZkC(w:World)(c:Sys):w.drawn<=(w.sys c).2.drawn:=by
 have h:=Zn1 (Kernel.perform c w.os) w;unfold World.sys
 split
 ·exact Nat.le_refl _
 ·rename_i h2;rw[h2] at h;exact h
theorem Za9(w:World)(a:Addr)(n:Nat):(w.freeze a n).drawn=w.drawn:=by
 unfold World.freeze;split<;>rfl
theorem JQ{p:Program}{w w':World}{a:Addr}{v:Value}{b:Bool}{l:List Addr}(h:w.farStore p a v b=.ok (w',l)):w'.drawn=w.drawn:=by
 unfold World.farStore at h
 split at h
 ·split at h
  ·rename_i r hr
   simp only[Except.ok.injEq] at h;subst h;unfold World.viewStore at hr;simp only[bind,Except.bind,pure,Except.pure] at hr
   repeat' split at hr
   all_goals first|(cases hr;done)|(simp only[Except.ok.injEq,Prod.mk.injEq] at hr;rw[<-hr.1])
  ·cases h
 ·cases h
theorem Zg7{α:Type}(p:Program)(s:Sem α)(w:World):Rge w.drawn (s.run p w):=by
 induction s generalizing w with
 |pure a=>simp[Sem.run,Rge]
 |load m a k ih=>
  simp only[Sem.run]
  split
  ·exact ih _ _
  ·split
   ·exact ih _ _
   ·simp[Rge]
 |store m a v k ih=>
  cases v
  all_goals
   simp only[Sem.run]
   try (simp only[Rge];exact Nat.le_refl _)
   try (
    split
    ·split
     ·simp[Rge]
     ·exact ih _
    ·split
     ·rename_i w' _ hf;have:=ih w';rw[JQ hf] at this;exact this
     ·simp[Rge])
 |new o k ih=>simp only[Sem.run];exact ih _ _
 |shape r k ih=>simp only[Sem.run];exact ih _ _
 |freeze a n k ih=>simp only[Sem.run];have:=ih (w.freeze a n);rw[Za9] at this;exact this
 |frozen a k ih=>simp only[Sem.run];exact ih _ _
 |getObj r k ih=>
  simp only[Sem.run]
  split
  ·simp[Rge]
  ·exact ih _ _
  ·simp[Rge]
 |setObj r o k ih=>
  simp only[Sem.run]
  split
  ·simp[Rge]
  ·exact ih _
  ·simp[Rge]
 |choose q k ih=>
  simp only[Sem.run]
  split
  ·exact ih _ _
  ·have:=ih (q.cut (w.tape w.drawn q)) {w with drawn:=w.drawn+1}
   revert this
   generalize Sem.run p _ _=r
   cases r<;>simp[Rge]<;>omega
 |sys c k ih=>
  simp only[Sem.run];have h1:=ZkC w c;have:=ih (w.sys c).1 (w.sys c).2
  revert this
  generalize Sem.run p _ _=r
  cases r<;>simp[Rge]<;>omega
 |program k ih=>simp only[Sem.run];exact ih _ _
 |mark m k ih=>simp only[Sem.run];exact ih _
 |halt h=>simp[Sem.run,Rge]
theorem Zci{α:Type}(p:Program)(s:Sem α)(w:World)(es:Array Event):Rge w.drawn (s.runT p w es).1:=by
 induction s generalizing w es with
 |pure a=>simp[Sem.runT,Rge]
 |load m a k ih=>
  simp only[Sem.runT]
  split
  ·exact ih _ _ _
  ·split
   ·exact ih _ _ _
   ·simp[Rge]
 |store m a v k ih=>
  cases v
  all_goals
   simp only[Sem.runT]
   try (simp only[Rge];exact Nat.le_refl _)
   try (
    split
    ·split
     ·simp[Rge]
     ·exact ih _ _
    ·split
     ·rename_i w' l hf;have:=ih w' (es++l.toArray.map (⟨.cell ·, true,m== .atomic⟩));rw[JQ hf] at this;exact this
     ·simp[Rge])
 |new o k ih=>simp only[Sem.runT];exact ih _ _ _
 |shape r k ih=>simp only[Sem.runT];exact ih _ _ _
 |freeze a n k ih=>simp only[Sem.runT];have:=ih (w.freeze a n) es;rw[Za9] at this;exact this
 |frozen a k ih=>simp only[Sem.runT];exact ih _ _ _
 |getObj r k ih=>
  simp only[Sem.runT]
  split
  ·simp[Rge]
  ·exact ih _ _ _
  ·simp[Rge]
 |setObj r o k ih=>
  simp only[Sem.runT]
  split
  ·simp[Rge]
  ·exact ih _ _
  ·simp[Rge]
 |choose q k ih=>
  simp only[Sem.runT]
  split
  ·exact ih _ _ _
  ·have:=ih (q.cut (w.tape w.drawn q)) {w with drawn:=w.drawn+1} es
   revert this
   generalize Sem.runT p _ _ _=r;obtain⟨r,_⟩:=r
   cases r<;>simp[Rge]<;>omega
 |sys c k ih=>
  simp only[Sem.runT];have h1:=ZkC w c;have:=ih (w.sys c).1 (w.sys c).2 (es.push ⟨.output,true,false⟩)
  revert this
  generalize Sem.runT p _ _ _=r;obtain⟨r,_⟩:=r
  cases r<;>simp[Rge]<;>omega
 |program k ih=>simp only[Sem.runT];exact ih _ _ _
 |mark m k ih=>simp only[Sem.runT];exact ih _ _
 |halt h=>simp[Sem.runT,Rge]
theorem XN{α:Type}{p:Program}{s:Sem α}{w w':World}{a:α}{d:Nat}(h:d<=w.drawn)(e:s.run p w=.ok a w'):d<=w'.drawn:=by
 have:=Zg7 p s w;rw[e] at this;exact Nat.le_trans h this
theorem ZkD{α:Type}{p:Program}{s:Sem α}{w w':World}{a:Halt}{d:Nat}(h:d<=w.drawn)(e:s.run p w=.halt a w'):d<=w'.drawn:=by
 have:=Zg7 p s w;rw[e] at this;exact Nat.le_trans h this
theorem YE{α:Type}{p:Program}{s:Sem α}{w w':World}{a:α}{d:Nat}{es es':Array Event}(h:d<=w.drawn)(e:s.runT p w es=(.ok a w',es')):d<=w'.drawn:=by
 have:=Zci p s w es;rw[e] at this;exact Nat.le_trans h this
theorem ZbD{α:Type}{p:Program}{s:Sem α}{w w':World}{a:Halt}{d:Nat}{es es':Array Event}(h:d<=w.drawn)(e:s.runT p w es=(.halt a w',es')):d<=w'.drawn:=by
 have:=Zci p s w es;rw[e] at this;exact Nat.le_trans h this
def GOk(d:Nat):GStep->Prop
 | .go _ w _=>d<=w.drawn
 | .comm _ _ _ _ w _=>d<=w.drawn
 | .spawn _ _ w _=>d<=w.drawn
 | .count _ w _=>d<=w.drawn
 | .timer _ _ w _=>d<=w.drawn
 | .alone _ _ w _=>d<=w.drawn
 | .newcoro _ _ _ w _=>d<=w.drawn
 | .coroswitch _ _ _ w _=>d<=w.drawn
 | .collect _ w _=>d<=w.drawn
 | .watch _ w _=>d<=w.drawn
 | .ended .. =>True
theorem GOk.ite{d:Nat}{c:Prop}[Decidable c]{a b:GStep}(ha:GOk d a)(hb:GOk d b):GOk d (if c then a else b):=by
 split
 ·exact ha
 ·exact hb
theorem GOk.after{d:Nat}{es:Array Event}{s:GStep}(h:GOk d s):GOk d (GStep.after es s):=by
 cases s<;>exact h
def SOk(d:Nat):Stepped->Prop
 | .next m=>d<=m.world.drawn
 | .ended .. =>True
section
variable {p:Program} {fr:Frame} {callers:List Frame} {dying:Option Dying} {w:World} {d:Nat}
theorem ZkE{a:List _root_.ByteArray}{m:String}{b:Bool}(h:d<=w.drawn):GOk d (dieOf fr a m b w):=h
theorem JR{m:String}(h:d<=w.drawn):GOk d (endThrow fr m w):=h
theorem JS{v:Value}(h:d<=w.drawn):GOk d (endPrinting p fr v w):=by
 unfold endPrinting
 dsimp only
 split
 ·exact h
 ·exact True.intro
theorem ZbZ{m:String}(h:d<=w.drawn):GOk d (endFatal p fr callers dying m w):=by
 unfold endFatal
 dsimp only
 split
 ·exact ZkE (XN h (by assumption))
 ·exact True.intro
 ·exact True.intro
theorem Zg8{n:Nat}{t:_root_.ByteArray}{o:Outcome}:GOk d (endWith w n t o):=by
 unfold endWith
 dsimp only
 split
 ·split<;>exact True.intro
 ·exact True.intro
 ·exact True.intro
theorem Zg9{y:Dying}{f:Fatal}(h:d<=w.drawn):GOk d (writeOn p fr y f w):=by
 unfold writeOn
 dsimp only
 split
 ·exact True.intro
 ·split
  ·exact YE h (by assumption)
  ·exact ZbD h (by assumption)
  ·exact True.intro
  ·exact True.intro
theorem Zn2{y:Dying}(h:d<=w.drawn):GOk d (die p fr y w):=by
 unfold die
 dsimp only
 split
 ·exact Zg9 h
 ·split
  ·split
   ·exact h
   ·exact Zg8
  ·split
   ·exact h
   ·split
    ·exact XN h (by assumption)
    ·exact True.intro
   ·refine GOk.after ?_
    split
    ·exact YE h (Prod.ext (by assumption) rfl)
    ·exact YE h (Prod.ext (by assumption) rfl)
    ·exact True.intro
    ·exact JS (ZbD h (Prod.ext (by assumption) rfl))
    ·exact True.intro
   ·exact True.intro
theorem YR{main:Bool}{v:Value}(h:d<=w.drawn):GOk d (doReturn p main fr callers dying v w):=by
 unfold doReturn
 dsimp only
 repeat' split
 all_goals first|exact h|exact True.intro
theorem Zb8{x:Deferred}(h:d<=w.drawn):GOk d (callDeferred p fr callers dying x w):=by
 unfold callDeferred
 dsimp only
 refine GOk.ite True.intro ?_
 ·refine GOk.after ?_;have hr:=Zci p (invoke x.target x.args) w #[];generalize (Sem.runT p (invoke x.target x.args) w #[]).fst=r at hr ⊢;have hk:∀a w',r=.ok a w'->d<=w'.drawn:=fun a w' e=>by rw[e] at hr;exact Nat.le_trans h hr
  have hh:∀a w',r=.halt a w'->d<=w'.drawn:=fun a w' e=>by rw[e] at hr;exact Nat.le_trans h hr
  clear hr
  split
  all_goals first
   |exact True.intro
   |exact hk _ _ rfl
   |exact hh _ _ rfl
   |exact ZbZ (hh _ _ rfl)
   |exact JR (hh _ _ rfl)
   |(split<;>exact hk _ _ rfl)
theorem ZiX{main:Bool}(h:d<=w.drawn):GOk d (unwind p main fr callers dying w):=by
 unfold unwind
 dsimp only
 split
 ·refine GOk.after ?_
  split
  ·exact YE h (Prod.ext (by assumption) rfl)
  ·exact True.intro
 ·exact Zb8 h
 ·split
  ·exact True.intro
  ·split
   ·exact True.intro
   ·split
    ·exact h
    ·split
     ·split
      ·exact h
      ·split
       ·exact XN h (by assumption)
       ·exact True.intro
       ·exact True.intro
     ·split
      ·exact JS h
      ·exact True.intro
  ·split
   ·exact YR h
   ·refine GOk.after ?_
    split
    ·exact YR (YE h (Prod.ext (by assumption) rfl))
    ·exact True.intro
    ·exact True.intro
theorem ZkF{g:Nat}(h:d<=w.drawn):GOk d (early p fr callers dying g w):=by
 unfold early
 dsimp only
 repeat' split
 all_goals first
  |exact h
  |exact True.intro
  |(have hq:=XN h ‹Sem.run p (choose (Question.early g)) w=Result.ok _ _›; exact hq)
theorem Zba{s:Sem Next}{listen:Bool}(h:d<=w.drawn):GOk d (stepG.apply p listen fr callers dying s w):=by
 unfold stepG.apply
 dsimp only
 have hr:Rge w.drawn (if listen=true then s.runT p w #[] else(s.run p w,#[])).fst:=by
  split
  ·exact Zci p s w #[]
  ·exact Zg7 p s w
 generalize (if listen=true then s.runT p w #[] else(s.run p w,#[]))=r0 at hr ⊢;obtain⟨r,es⟩:=r0
 dsimp only at hr ⊢
 refine GOk.after ?_;have hk:∀a w',r=.ok a w'->d<=w'.drawn:=fun a w' e=>by rw[e] at hr;exact Nat.le_trans h hr
 have hh:∀a w',r=.halt a w'->d<=w'.drawn:=fun a w' e=>by rw[e] at hr;exact Nat.le_trans h hr
 clear hr
 split
 all_goals first
  |exact True.intro
  |exact hk _ _ rfl
  |exact hh _ _ rfl
  |exact ZbZ (hh _ _ rfl)
  |exact JR (hh _ _ rfl)
  |exact ZkF (hh _ _ rfl)
  |(split<;>exact hk _ _ rfl)
  |exact GOk.ite (JR (hk _ _ rfl)) (hk _ _ rfl)
theorem Zmy{listen:Bool}(h:d<=w.drawn):GOk d (stepG.oper p listen fr callers dying w):=by
 unfold stepG.oper
 split
 ·exact True.intro
 ·split<;>exact Zba h
theorem Zib{α:Type}{o:Option α}{a:GStep}{f:α->GStep}(ha:GOk d a)(hf:∀x,GOk d (f x)):GOk d (o.elim a f):=by
 cases o
 ·exact ha
 ·exact hf _
theorem Zmz{main listen:Bool}(h:d<=w.drawn):GOk d (stepG.exec p main listen fr callers dying w):=by
 unfold stepG.exec
 dsimp only
 split
 case h_1=>(split;exact GOk.ite (by assumption) True.intro;refine GOk.after ?_;split;exact YR (YE (by assumption) (Prod.ext (by assumption) rfl));exact True.intro)
 case h_2=>(split;exact GOk.ite (by assumption) True.intro;refine GOk.after ?_;split;exact YR (YE (by assumption) (Prod.ext (by assumption) rfl));exact True.intro)
 all_goals first
  |exact h
  |exact True.intro
  |exact Zba h
  |exact GOk.ite (Zmy h) h
  |exact Zib True.intro (fun _=>Zba h)
  |(refine Zib ?_ (fun _=>h);(split;exact GOk.ite (by assumption) True.intro;refine GOk.after ?_;split;exact YR (YE (by assumption) (Prod.ext (by assumption) rfl));exact True.intro))
  |(split;exact h;exact True.intro)
  |(split;exact h;split;exact XN h (by assumption);exact True.intro)
  |(refine GOk.after ?_;split;exact Zba (YE h (Prod.ext (by assumption) rfl));exact True.intro)
  |(refine GOk.after ?_;split;exact YE h (Prod.ext (by assumption) rfl);exact ZbD h (Prod.ext (by assumption) rfl);exact True.intro)
  |skip
theorem ZkG{main listen:Bool}{g:Goroutine}(h:d<=w.drawn):GOk d (stepG p main g w listen):=by
 obtain⟨fr,callers,status,dying,offers⟩:=g
 unfold stepG
 dsimp only
 split
 ·exact Zn2 h
 ·exact Zmz h
 ·exact ZiX h
theorem SOk.ite{c:Prop}[Decidable c]{a b:Stepped}(ha:SOk d a)(hb:SOk d b):SOk d (if c then a else b):=by
 split
 ·exact ha
 ·exact hb
theorem ZcK{rest:Rest}{gs:Array Goroutine}{i:Nat}{g:Goroutine}{cases:Array CommCase}{b:Bool}{sh:CommShape}(h:d<=w.drawn):SOk d (communicate p rest gs i g cases b sh w).1:=by
 unfold communicate
 dsimp only
 split
 ·exact True.intro
 split
 ·split
  ·split
   ·rename_i w' hw
    show d<=w'.drawn
    unfold waitingAt at hw
    repeat' split at hw
    all_goals first|(cases hw;done)|(simp only[Option.some.injEq] at hw;rw[<-hw];exact h)
   ·exact True.intro
  ·exact h
 ·split
  ·exact True.intro
  ·rename_i hr
   have h1:=XN h hr;clear hr
   split
   ·split
    ·rename_i hr2
     exact ZkD h1 hr2
    ·exact True.intro
   ·exact h1
   ·exact h1
   ·split
    ·exact h1
    ·split
     ·rename_i hr2
      have hq:=XN h1 hr2;exact hq
     ·exact True.intro
   ·exact h1
   ·exact h1
   ·exact True.intro
theorem ZfT(w:World)(c:Nat):(drain w c).2.drawn=w.drawn:=by
 unfold drain
 split<;>rfl
theorem Zbb(m:Machine)(k:Nat)(t:Timer)(a b:Nat):(retime m k t a b).2.world.drawn=m.world.drawn:=by
 unfold retime
 dsimp only
 split
 ·exact ZfT _ _
 ·rfl
theorem Zds{m m':Machine}{op:TimerOp}{v:Value}(e:timerOp m op=.ok (v,m')):m'.world.drawn=m.world.drawn:=by
 have named:∀(m0:Machine) (a:Addr) (f:Nat->Timer->Value×Machine) (x:Value×Machine),timerOp.named m a f=.ok x->(∀k t,(f k t).2.world.drawn=m0.world.drawn)->x.2.world.drawn=m0.world.drawn:=by
  intro m0 a f x hx hf;unfold timerOp.named at hx
  split at hx
  ·simp only[Except.ok.injEq] at hx;rw[<-hx];exact hf _ _
  ·cases hx
 unfold timerOp at e
 split at e
 ·split at e
  ·simp only[Except.ok.injEq,Prod.mk.injEq] at e;rw[<-e.2];rfl
  ·split at e
   ·split at e
    ·cases e
    ·simp only[Except.ok.injEq,Prod.mk.injEq] at e;rw[<-e.2]
   ·cases e
 ·exact named m _ _ _ e (fun k t=>Zbb _ _ _ _ _)
 ·split at e
  ·rename_i m1 hm1
   have h1:m1.world.drawn=m.world.drawn:=by
    unfold timerOp.opened at hm1
    repeat' split at hm1
    all_goals first|(cases hm1;done)|(simp only[Option.some.injEq] at hm1;rw[<-hm1])
   rw[<-h1];exact named m1 _ _ _ e (fun k t=>Zbb _ _ _ _ _)
  ·cases e
 ·simp only[Except.ok.injEq,Prod.mk.injEq] at e;rw[<-e.2];rfl
theorem Zic{gs:Array Goroutine}{rest:Rest}(h:d<=w.drawn):SOk d (look p gs rest w):=by
 unfold look
 dsimp only
 split
 ·refine SOk.ite True.intro ?_
  split
  ·exact True.intro
  ·split
   ·rename_i hr
    have hq:=XN h hr;exact hq
   ·exact True.intro
   ·exact True.intro
 ·exact True.intro
theorem ZkH{m:Machine}{k:Nat}(h:d<=m.world.drawn):SOk d (serve p m k):=by
 unfold serve
 dsimp only
 split
 ·exact True.intro
 ·exact h
 ·split
  ·exact True.intro
  ·exact h
theorem ZkI{m:Machine}{i:Nat}{listen:Bool}(h:d<=m.world.drawn):SOk d (Go.runT p m i listen).1:=by
 unfold Go.runT
 dsimp only
 have hs:=ZkG (p:=p) (main:=i==0) (g:=(m.gs.swapAt! i {(default:Goroutine) with status:=.finished}).1) (listen:=listen) h;generalize stepG p (i==0) (m.gs.swapAt! i {(default:Goroutine) with status:=.finished}).1 m.world listen=s at hs ⊢
 cases s with
 |ended o w es=>exact True.intro
 |comm g cases b sh w es=>exact ZcK hs
 |go g w es=>exact hs
 |spawn g c w es=>exact hs
 |count g w es=>exact SOk.ite True.intro hs
 |alone g on w es=>exact hs
 |collect g w es=>exact Zic hs
 |watch g w es=>exact hs
 |newcoro g c x w es=>exact hs
 |coroswitch g c ex w es=>
  dsimp only
  split
  ·exact hs
  ·exact hs
  ·exact True.intro
 |timer g op w es=>
  dsimp only
  split
  ·rename_i hm
   exact Nat.le_trans hs (Nat.le_of_eq (Zds hm).symm)
  ·exact hs
  ·exact True.intro
  ·exact True.intro
def MOk(d:Nat):Move->Prop
 | .goroutine m _=>d<=m.world.drawn
 | .machine s _=>SOk d s
theorem SOk.endWith{n:Nat}{t:_root_.ByteArray}{o:Outcome}:MOk d (match endWith w n t o with
 | .ended o w _=>.machine (.ended o w)
 |_=>.machine (.ended (.stuck "" "") default)):=by
 split<;>exact True.intro
theorem ZeI{m:Machine}{rs:List Nat}(h:d<=m.world.drawn):MOk d (
 match (choose (.sched rs.length)).run p m.world with
 | .halt _ w=>.machine (.ended (.stuck "sched" "") w)
 | .ok k world=>
   if rs.length<=1 then .goroutine {m with world} (rs.getD k 0) else
   match (choose (.extern "sched.slice" 65536)).run p world with
   | .halt _ w=>.machine (.ended (.stuck "sched.slice" "") w)
   | .ok n world=>.goroutine {m with world,rest:={m.rest with slice:=if n=0 then none else some (rs.getD k 0,n)}} (rs.getD k 0)):=by
 split
 ·exact True.intro
 ·rename_i h1
  have h2:=XN h h1
  split
  ·exact h2
  ·split
   ·exact True.intro
   ·rename_i h3
    have h4:=XN h2 h3;exact h4
theorem ZcL{m:Machine}(h:d<=m.world.drawn):MOk d (askOn p m):=by
 unfold askOn
 dsimp only
 split
 ·exact True.intro
 ·rename_i h1
  have h2:=XN h h1
  split
  ·exact ZkH h2
  ·split
   ·split
    ·exact h2
    ·split
     ·exact h2
     ·exact SOk.endWith
   ·split
    ·exact ZeI (m:={m with world:=_}) h2
    ·split
     ·exact True.intro
     ·rename_i h3
      have h4:=XN h2 h3;exact ZeI (m:={m with world:=_}) h4
     ·rename_i h3
      have h4:=XN h2 h3;exact h4
     ·rename_i h3
      have h4:=XN h2 h3;exact ZeI (m:=Machine.advanceTo {m with world:=_} _) h4
theorem ZkJ{m:Machine}(h:d<=m.world.drawn):MOk d (Go.ask p m):=by
 unfold Go.ask
 split
 ·split
  ·exact True.intro
  ·rename_i h1
   have h2:=XN h h1;have h3:=Zic (p:=p) (gs:=m.gs) (rest:=m.rest) h2
   split
   ·rename_i h4
    rw[h4] at h3;exact ZcL h3
   ·exact h3
  ·rename_i h1
   have h2:=XN h h1;exact ZcL h2
 ·exact ZcL h
theorem ZmA{m:Machine}(h:d<=m.world.drawn):MOk d (move p m):=by
 unfold move
 split
 ·split
  ·exact h
  ·exact True.intro
 ·split
  ·split
   ·exact h
   ·exact ZkJ h
  ·exact ZkJ h
theorem ZmB{m:Machine}(h:d<=m.world.drawn):SOk d (step p m):=by
 unfold step stepT;have hm:=ZmA (p:=p) h
 split
 ·rename_i e
  rw[e] at hm;exact ZkI hm
 ·rename_i e
  rw[e] at hm;exact hm
theorem ZmC{n:Nat}{m:Machine}(h:d<=m.world.drawn):SOk d (runN p n m):=by
 induction n generalizing m with
 |zero=>exact h
 |succ n ih=>
  unfold runN;have hs:=ZmB (p:=p) h
  split
  ·rename_i e
   rw[e] at hs;exact ih hs
  ·exact hs
end
theorem Zb0{P:Program}{m m':Machine}(h:Steps P m m'):m.world.drawn<=m'.world.drawn:=by
 obtain⟨n,hn⟩:=h
 have:=ZmC (p:=P) (n:=n) (Nat.le_refl m.world.drawn)
 rw[hn] at this;exact this
theorem ZfU{P:Program}{f:FuncId}{args:Array Value}{w:World}{R:Ending->World->Prop}(h:Calls P f args w R)(hr:∀w',¬R .outgrown w'):Calls P f args w fun e w'=>R e w'/\w.drawn<=w'.drawn:=by
 intro cs;obtain⟨e,w',fr,h1,h2,h3,h4⟩:=h cs
 refine⟨e,w',fr,⟨h1,?_⟩,h2,h3,h4⟩
 cases e with
 |returned v=>exact Zb0 h2
 |panicked c=>exact Zb0 h2
 |outgrown=>exact absurd h1 (hr w')
open Go.RowKit in
theorem Zdt{w w':World}(h:Below w.1.size w w')(hd:w.drawn<=w'.drawn):∃q os,w'=Sort.grow (w.drewN q) os:=by
 refine⟨w'.drawn-w.drawn,w'.heap.extract w.1.size w'.1.size,?_⟩
 have h1:w'.heap=w.heap++w'.heap.extract w.1.size w'.1.size:=by
  apply Array.ext_getElem?
  intro i;rw[Array.getElem?_append];have hs:=h.size
  split
  ·rename_i hi
   exact h.block i hi
  ·rename_i hi
   rw[Array.getElem?_extract]
   by_cases hj:i<w'.1.size
   ·have:w.1.size+(i-w.1.size)=i:=by omega
    rw[this];simp;omega
   ·rw[Array.getElem?_eq_none (by omega)]
    split
    ·rw[Array.getElem?_eq_none (by omega)]
    ·rfl
 cases w' with
 |mk heap tape drawn os output=>
  have h2:=h.os;have h3:=h.tape;have h4:=h.output;simp only at h1 h2 h3 h4 hd
  subst h2;subst h3;subst h4
  unfold Sort.grow World.drewN;simp only[World.mk.injEq,true_and,and_true];exact⟨h1,by omega⟩
end
section
open Go.RowKit
section
variable {α:Type} {enc:α->List Value} {k:Nat}
end
end
end Go.Proofs.YtkddgeclncafoaaGreatDoor
